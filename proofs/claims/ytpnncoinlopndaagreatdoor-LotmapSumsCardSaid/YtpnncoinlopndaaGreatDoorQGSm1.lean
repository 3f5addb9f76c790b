/- Base, N1, Tb, Kp, Dg, M1. -/
import Derived.Test.YtpnncoinlopndaaGreatDoorProg
import Derived.WalkKit
import Derived.Deep.QuietTactic
import Derived.BigQuiet
import Derived.Lib.Hide
import Derived.Below
import Derived.Laws.OwnMore
import Derived.Deep.AppendLies
import Derived.Deep.Draws
import Derived.Laws.Rows
import Derived.KernelRfl
import Derived.Test.YtpnncoinlopndaaGreatDoorShelf
import Derived.Shelf.Strings.SlTrimAscii
import Derived.Lib.ItoaNum
import Derived.Lib.LaidTab
import Derived.Lib.AppendIntMem
set_option maxHeartbeats 400000
namespace Go.Proofs.YtpnncoinlopndaaGreatDoor
open Go.Lib renaming hid→hdz
section
open Go.RowKit
theorem Zaf{a b:Bool}(h:a=b):Ending.returned (.bool a)=.returned (.bool b):=by rw[h]
theorem Zad{k:IntKind}{a b:Int}(h:a=b):Ending.returned (.int k a)=.returned (.int k b):=by rw[h]
section
variable {α:Type}
def Sl(enc:α→List Value)(k:Nat)(w:World)(B:Nat)(A:Option Addr)(n:Nat)(xs:List α):Prop:=
 n=xs.length∧(0<n→∃b off,A=some ⟨b,off,none⟩∧b<B∧∀i x,xs[i]?=some x→∀j u,(enc x)[j]?=some u→w.cell? ⟨b,off+i*k+j,none⟩=some u)
def Own(enc:α→List Value)(k:Nat)(e:TypeId)(w:World)(base:Nat)(v:Value)(xs:List α):Prop:=
 w.ownsRow base e k v xs.length (xs.flatMap enc)
variable {enc:α→List Value} {k:Nat} {e:TypeId} {w w':World} {B B' n base:Nat} {A:Option Addr} {v:Value} {xs ys:List α}
theorem Sl.nil:Sl enc k w B A 0 ([]:List α):=⟨rfl,fun h=>absurd h (Nat.lt_irrefl 0)⟩
theorem Sl.len(h:Sl enc k w B A n xs):n=xs.length:=h.1
theorem Sl.at_{i:Nat}(h:Sl enc k w B A n xs)(hi:i<n):
 ∃b off x,A=some ⟨b,off,none⟩∧b<B∧xs[i]?=some x∧∀j u,(enc x)[j]?=some u→w.cell? ⟨b,off+i*k+j,none⟩=some u:=by
 obtain⟨b,off,e,hb,hc⟩:=h.2 (by omega)
 have hl:i<xs.length:=by have:=h.1;omega
 exact⟨b,off,xs[i],e,hb,List.getElem?_eq_getElem hl,hc i _ (List.getElem?_eq_getElem hl)⟩
theorem Sl.keep(h:Sl enc k w B A n xs)(hk:∀p:Addr,p.block<B→w'.cell? p=w.cell? p):Sl enc k w' B A n xs:=
 ⟨h.1,fun hn=>by
  obtain⟨b,off,e,hb,hc⟩:=h.2 hn
  exact⟨b,off,e,hb,fun i x hi j u hj=>(hk ⟨b,off+i*k+j,none⟩ hb).trans (hc i x hi j u hj)⟩⟩
theorem Sl.below(h:Sl enc k w B A n xs)(hb:Below B w w'):Sl enc k w' B A n xs:=h.keep fun _ hp=>hb.cell hp
theorem Sl.more(h:Sl enc k w B A n xs)(hB:B≤B'):Sl enc k w B' A n xs:=
 ⟨h.1,fun hn=>by
  obtain⟨b,off,e,hb,hc⟩:=h.2 hn
  exact⟨b,off,e,by omega,hc⟩⟩
theorem Sl.here(h:Sl enc k w w.heap.size A n xs)(hb:Below w.heap.size w w'):Sl enc k w' w'.heap.size A n xs:=(h.below hb).more hb.size
theorem Zmg(he:∀x,(enc x).length=k)(xs:List α)(m:Nat)(u:Value)(h:(xs.flatMap enc)[m]?=some u):
 ∃i x j,xs[i]?=some x∧(enc x)[j]?=some u∧m=i*k+j:=by
 induction xs generalizing m with
 |nil=>simp at h
 |cons y ys ih=>
  rw[List.flatMap_cons] at h
  by_cases hm:m<k
  ·rw[List.getElem?_append_left (by rw[he];exact hm)] at h
   exact⟨0,y,m,rfl,h,by simp⟩
  ·rw[List.getElem?_append_right (by rw[he];omega),he] at h
   obtain⟨i,x,j,h1,h2,h3⟩:=ih _ h
   exact⟨i+1,x,j,by simpa using h1,h2,by rw[Nat.succ_mul];omega⟩
theorem Zan(he:∀x,(enc x).length=k)(xs:List α):(xs.flatMap enc).length=xs.length*k:=by
 induction xs with
 |nil=>simp
 |cons y ys ih=>rw[List.flatMap_cons,List.length_append,ih,he,List.length_cons,Nat.succ_mul];omega
theorem ZdK(he:∀x,(enc x).length=k)(xs:List α)(i j:Nat)(x:α)(u:Value)(hi:xs[i]?=some x)(hj:(enc x)[j]?=some u):(xs.flatMap enc)[i*k+j]?=some u:=by
 induction xs generalizing i with
 |nil=>simp at hi
 |cons y ys ih=>
  have hjk:j<k:=by have:=(List.getElem?_eq_some_iff.1 hj).1;rw[he] at this;exact this
  cases i with
  |zero=>
   simp only[List.getElem?_cons_zero,Option.some.injEq] at hi
   subst hi
   rw[Nat.zero_mul,Nat.zero_add,List.flatMap_cons,List.getElem?_append_left (by rw[he];exact hjk)]
   exact hj
  |succ i=>
   rw[List.getElem?_cons_succ] at hi
   rw[List.flatMap_cons,List.getElem?_append_right (by rw[he,Nat.succ_mul];omega),he]
   have:=ih i hi
   rwa [show(i+1)*k+j-k=i*k+j from by rw[Nat.succ_mul];omega]
theorem Sl.lit(w:World)(cs:Array Value)(e:TypeId)(xs:List α)(hc:cs.toList=xs.flatMap enc)(he:∀x,(enc x).length=k):
 Sl enc k (w.alloc (.cells cs e)) (w.heap.size+1) (some ⟨w.heap.size,0,none⟩) xs.length xs:=by
 refine⟨rfl,fun _=>⟨_,0,rfl,Nat.lt_succ_self _,fun i x hi j u hj=> ?_⟩⟩
 have hcell:(w.alloc (.cells cs e)).cell? ⟨w.heap.size,0+i*k+j,none⟩=cs[0+i*k+j]?:=
  cell_of_row _ _ _ cs e (0,0) (heap_alloc_new w _)
 rw[hcell,Nat.zero_add,←Array.getElem?_toList,hc]
 exact ZdK he xs i j x u hi hj
theorem Own.nil:Own enc k e w base (.slice none 0 0) ([]:List α):=World.ownsRow_nil w base e k
theorem Own.form(h:Own enc k e w base v xs):∃A c,v=.slice A xs.length c∧xs.length≤c∧c≤maxLen∧(A=none→c=0)∧(∀g,v.ownBlock=some g→A=some ⟨g,0,none⟩∧base≤g∧g<w.heap.size):=by
 have hlt:=World.ownsRow.lt h
 rcases h.2 with ⟨rfl,h0⟩|⟨g,cap,cur,rfl,hb,hg,hc,hm,_⟩
 ·exact⟨none,0,by rw[h0],by omega,by simp[maxLen],fun _=>rfl,fun g hg=>by simp[Value.ownBlock] at hg⟩
 ·exact⟨_,cap,rfl,hc,hm,fun h=>(by cases h),fun g' hg'=>by
   have:=hlt g' hg'
   simp only[Value.ownBlock,Option.some.injEq] at hg'
   subst hg'
   exact⟨rfl,this⟩⟩
theorem Own.facts{c:Nat}(h:Own enc k e w base (.slice A n c) xs):n=xs.length∧xs.length≤c∧c≤maxLen∧((A=none∧c=0∧xs=[])∨∃g,A=some ⟨g,0,none⟩∧base≤g∧g<w.heap.size):=by
 obtain⟨A',c',hv,h1,h2,h3,h4⟩:=h.form
 injection hv with e1 e2 e3
 subst e1;subst e3
 refine⟨e2,h1,h2,?_⟩
 cases A with
 |none=>have:=h3 rfl;subst this;exact .inl ⟨rfl,rfl,List.eq_nil_of_length_eq_zero (by omega)⟩
 |some ad=>obtain⟨a1,a2,a3⟩:=h4 ad.block rfl;exact .inr ⟨_,a1,a2,a3⟩
theorem Own.sl(he:∀x,(enc x).length=k){c:Nat}(h:Own enc k e w base (.slice A n c) xs):Sl enc k w w.heap.size A n xs:=by
 have hh:w.ownsRow base e k (.slice A n c) xs.length (xs.flatMap enc):=h
 have hn:n=xs.length:=by
  obtain⟨A',c',hv,_⟩:=h.form
  injection hv
 subst hn
 refine⟨rfl,fun hn=> ?_⟩
 obtain⟨g,cap,hv,_,hlt⟩:=World.ownsRow.form hh hn
 have hA:A=some ⟨g,0,none⟩:=by injection hv
 subst hA
 refine⟨g,0,rfl,hlt,fun i x hi j u hj=> ?_⟩
 have:=World.ownsRow.cells hh (g:=g) rfl (i*k+j) u (ZdK he xs i j x u hi hj)
 rw[Addr.add_lit] at this
 rw[show 0+i*k+j=0+(i*k+j) from by omega]
 exact this
theorem Own.below(h:Own enc k e w base v xs)(hb:Below w.heap.size w w'):Own enc k e w' base v xs:=by
 refine World.ownsRow.kept h (row:=none) ⟨hb.os,hb.tape,hb.output,hb.size,fun i hi _=>hb.block i hi⟩ ?_
 cases hv:v.ownBlock with
 |none=>exact .inl rfl
 |some g=>exact .inr (by simp)
theorem Own.alloc(h:Own enc k e w base v xs)(o:Obj):Own enc k e (w.alloc o) base v xs:=World.ownsRow.alloc h o
theorem Own.drew(h:Own enc k e w base v xs):Own enc k e w.drew base v xs:=h
theorem Own.drewN(h:Own enc k e w base v xs)(m:Nat):Own enc k e (w.drewN m) base v xs:=h
theorem Own.base_{base':Nat}(h:Own enc k e w base v xs)(hb:base'≤base):Own enc k e w base' v xs:=by
 refine⟨h.1,?_⟩
 rcases h.2 with h0|⟨g,cap,cur,hv,hbg,r⟩
 ·exact .inl h0
 ·exact .inr ⟨g,cap,cur,hv,Nat.le_trans hb hbg,r⟩
theorem Own.far(h:Own enc k e w base v xs){p:Addr}(hp:v.ownBlock≠some p.block)(u:Value):Own enc k e (w.setCell p u) base v xs:=by
 refine⟨h.1,?_⟩
 rcases h.2 with h0|⟨g,cap,cur,rfl,hbg,hg,r⟩
 ·exact .inl h0
 ·refine .inr ⟨g,cap,cur,rfl,hbg,?_,r⟩
  rw[Below.heap_setCell w p u g (fun e=>hp (by simp[Value.ownBlock,e]))]
  exact hg
theorem Own.grown{row:Option Nat}(h:Own enc k e w base v xs)(hg:w.grownBy w' row)(hne:v.ownBlock=none∨v.ownBlock≠row):Own enc k e w' base v xs:=World.ownsRow.kept h hg hne
theorem Zkx(he:∀x,(enc x).length=k)(xs:List α)(i j:Nat)(x y:α)(u:Value)(hi:xs[i]?=some x)(hj:j<k)(hy:enc y=(enc x).set j u):
 (xs.set i y).flatMap enc=(xs.flatMap enc).set (i*k+j) u:=by
 induction xs generalizing i with
 |nil=>simp at hi
 |cons a xs ih=>
  cases i with
  |zero=>
   simp only[List.getElem?_cons_zero,Option.some.injEq] at hi
   subst hi
   rw[List.set_cons_zero,List.flatMap_cons,List.flatMap_cons,hy,Nat.zero_mul,Nat.zero_add,List.set_append_left _ _ (by rw[he];exact hj)]
  |succ i=>
   rw[List.getElem?_cons_succ] at hi
   rw[List.set_cons_succ,List.flatMap_cons,List.flatMap_cons,ih i hi,List.set_append_right _ _ (by rw[he,Nat.succ_mul];omega),he]
   rw[show(i+1)*k+j-k=i*k+j from by rw[Nat.succ_mul];omega]
theorem Own.set_(he:∀x,(enc x).length=k){g c i j:Nat}{x y:α}{u:Value}(h:Own enc k e w base (.slice (some ⟨g,0,none⟩) n c) xs)(hi:xs[i]?=some x)(hj:j<k)(hy:enc y=(enc x).set j u):
 Own enc k e (w.setCell ⟨g,i*k+j,none⟩ u) base (.slice (some ⟨g,0,none⟩) n c) (xs.set i y):=by
 have hn:=h.facts.1
 subst hn
 show World.ownsRow _ _ _ _ _ (xs.set i y).length ((xs.set i y).flatMap enc)
 rw[List.length_set,Zkx he xs i j x y u hi hj hy]
 exact(World.ownsRow.stored h (i*k+j) u).1
theorem Own.frozen{g c:Nat}(h:Own enc k e w base (.slice (some ⟨g,0,none⟩) n c) xs)(j:Nat):w.frozen? ⟨g,j,none⟩=false:=by
 have hn:=h.facts.1
 subst hn
 exact World.ownsRow.frozenAt h j
theorem ZdY(he:∀x,(enc x).length=k)(xs:List α)(m:Nat):(xs.take m).flatMap enc=(xs.flatMap enc).take (m*k):=by
 induction xs generalizing m with
 |nil=>simp
 |cons a xs ih=>
  cases m with
  |zero=>simp
  |succ m=>rw[List.take_succ_cons,List.flatMap_cons,List.flatMap_cons,ih m,List.take_append,he,List.take_of_length_le (l:=enc a) (by rw[he,Nat.succ_mul];omega),show(m+1)*k-k=m*k from by rw[Nat.succ_mul];omega]
theorem Own.shrink(he:∀x,(enc x).length=k){g c m:Nat}(h:Own enc k e w base (.slice (some ⟨g,0,none⟩) n c) xs)(hm:m≤xs.length):Own enc k e w base (.slice (some ⟨g,0,none⟩) m c) (xs.take m):=by
 have hn:=h.facts.1
 subst hn
 have hl:(xs.take m).length=m:=by rw[List.length_take];omega
 refine⟨by rw[Zan he],?_⟩
 rcases h.2 with ⟨h0,_⟩|⟨g',cap,cur,hv,hb,hg,hnc,hcm,hcs,ht⟩
 ·cases h0
 ·injection hv with a1 a2 a3
  injection a1 with a1
  injection a1 with a1
  subst a1;subst a3
  refine .inr ⟨g,c,cur,by rw[hl],hb,hg,by omega,hcm,hcs,?_⟩
  rw[ZdY he,hl,←ht,List.take_take]
  rw[Nat.min_eq_left (Nat.mul_le_mul_right _ hm)]
theorem Own.ne{β:Type}{enc':β→List Value}{k' base':Nat}{e':TypeId}{v':Value}{ys':List β}(h:Own enc k e w base v xs)(h':Own enc' k' e' w base' v' ys')(hne:e≠e'):v.ownBlock=none∨v.ownBlock≠v'.ownBlock:=by
 rcases h.2 with ⟨rfl,_⟩|⟨g,cap,cur,rfl,_,hg,_⟩
 ·exact .inl rfl
 ·right
  rcases h'.2 with ⟨rfl,_⟩|⟨g',cap',cur',rfl,_,hg',_⟩
  ·simp[Value.ownBlock]
  ·intro hh
   simp only[Value.ownBlock,Option.some.injEq] at hh
   subst hh
   rw[hg] at hg'
   injection hg' with hg'
   injection hg' with _ ht
   exact hne ht
def ElemT(P:Program)(t e:TypeId)(k bytes:Nat):Prop:=
 ∃i z,P.underlying t=some (.slice e)∧P.info? e=some i∧i.zero=some z∧i.size=k∧i.bytes=bytes∧z.cells.size=k∧0<k∧bytes≤1024
theorem ZbP{P:Program}{t e:TypeId}{k bytes:Nat}(hu:P.underlying t=some (.slice e))(h:(P.info? e).map (fun i=>(i.zero.map (fun z=>z.cells.size),i.size,i.bytes))=some (some k,k,bytes))(hk:0<k)(hb:bytes≤1024):ElemT P t e k bytes:=by
 cases hi:P.info? e with
 |none=>rw[hi] at h;cases h
 |some i=>
  rw[hi] at h
  simp only[Option.map_some,Option.some.injEq,Prod.mk.injEq] at h
  obtain⟨h1,h2,h3⟩:=h
  cases hz:i.zero with
  |none=>rw[hz] at h1;cases h1
  |some z=>
   rw[hz] at h1
   simp only[Option.map_some,Option.some.injEq] at h1
   exact⟨i,z,hu,hi,hz,h2,h3,h1,hk,hb⟩
section
variable {P:Program} (w:World)
theorem ZiU(t ty:TypeId){bytes:Nat}(hT:ElemT P t e k bytes)(he:∀x,(enc x).length=k)(h1:∀x,∀u∈enc x,u.oneCell'=true)
 (v:Value) (xs:List α) (hown:Own enc k e w base v xs) (B:Nat) (A:Option Addr) (m c:Nat) (ys:List α) (hr:Sl enc k w B A m ys)
 (hlen:xs.length+m≤100000000000) (hbase:base≤w.heap.size):
 ∃A' c' w',(Builtin.append_ #[t,t] ty #[v,.slice A m c]).run P w=.ok (.slice A' (xs.length+m) c') w'∧Own enc k e w' base (.slice A' (xs.length+m) c') (xs++ys)∧w.grownBy w' v.ownBlock∧
  (A'.map Addr.block=v.ownBlock∨A'.map Addr.block=some w.heap.size):=by
 obtain⟨i,z,ht,hi,hz,hsize,hby,hzs,hsz,hb⟩:=hT
 have hown':w.ownsRow base e k v xs.length (xs.flatMap enc):=hown
 by_cases hm:m=0
 ·subst hm
  obtain rfl:ys=[]:=List.eq_nil_of_length_eq_zero hr.1.symm
  obtain⟨A0,c0,rfl,hc0,_⟩:=hown.form
  have hrun:(Builtin.append_ #[t,t] ty #[.slice A0 xs.length c0,.slice A 0 c]).run P w=.ok (.slice A0 xs.length c0) w:=by
   rcases hown.2 with ⟨hv,h0⟩|⟨g,cap,cur,hv,_,hg,hnc,hcm,hcs,_⟩
   ·injection hv with a1 a2 a3
    subst a1;subst a3
    rw[h0]
    cases A<;>simp[Builtin.append_,run_underlying ht,sizeOf,typeInfo,hi,Builtin.lenOf,Builtin.firstCells,loadCells,loadCellsFrom,Result.andThen]
   ·injection hv with a1 a2 a3
    subst a1;subst a3
    cases A<;>simp[Builtin.append_,run_underlying ht,sizeOf,typeInfo,hi,Builtin.lenOf,Builtin.firstCells,loadCells,loadCellsFrom,Result.andThen,hnc,storeCells]
  exact⟨A0,c0,w,hrun,by simpa using hown,World.grownBy.refl w _,.inl (by cases A0<;>rfl)⟩
 ·obtain⟨b,off,rfl,hbB,hc⟩:=hr.2 (by omega)
  have hl:(ys.flatMap enc).length=m*k:=by rw[Zan he,hr.1]
  have hnews:∀j u,(ys.flatMap enc)[j]?=some u→w.cell? ((⟨b,off,none⟩:Addr).add j)=some u:=by
   intro j u hu
   obtain⟨i',x,j',hi',hj',rfl⟩:=Zmg he ys j u hu
   have:=hc i' x hi' j' u hj'
   unfold Addr.add
   split
   ·rename_i h0;rw[Nat.add_assoc,h0] at this;exact this
   ·rw[←Nat.add_assoc];exact this
  have hone:∀u∈ys.flatMap enc,u.oneCell'=true:=by
   intro u hu
   rw[List.mem_flatMap] at hu
   obtain⟨x,_,hx⟩:=hu
   exact h1 x u hx
  have hbt:(xs.length+m)*bytes≤140737488355328:=Nat.le_trans (Nat.mul_le_mul hlen hb) (by decide)
  obtain⟨v',w',hrun,h2,h3,_,h5⟩:=run_append_own_at (P:=P) w base t ty e i z k bytes ht hi hz hsize hby hzs hsz v xs.length (xs.flatMap enc) hown' ⟨b,off,none⟩ m c (ys.flatMap enc) hl hnews hone (by unfold maxLen;omega) hbt hbase
  have hO:Own enc k e w' base v' (xs++ys):=by
   show w'.ownsRow base e k v' (xs++ys).length ((xs++ys).flatMap enc)
   rw[List.length_append,←hr.1,List.flatMap_append]
   exact h2
  obtain⟨A',c',hv',_⟩:=hO.form
  rw[List.length_append,←hr.1] at hv'
  subst hv'
  refine⟨A',c',w',hrun,hO,h3,?_⟩
  rcases h5 with h5|h5
  ·left;rw[←h5];cases A'<;>rfl
  ·right;rw[←h5];cases A'<;>rfl
theorem ZlW{o:Oper}{a:Act}{K:Act→World→Prop}{Q:Exit→Act→World→Prop}(s x:Operand)(t:TypeId)
 (ho:o.op=.call {callee:=.builtin .append,args:=#[s,x],argTypes:=#[t,t]}) {bytes:Nat} (hT:ElemT P t e k bytes) (he:∀x,(enc x).length=k) (h1:∀x,∀u∈enc x,u.oneCell'=true)
 (v:Value) (xs:List α) (hs:a.eval s=v) (hown:Own enc k e w base v xs) (B:Nat) (A:Option Addr) (m c:Nat) (ys:List α) (hx:a.eval x=.slice A m c) (hr:Sl enc k w B A m ys)
 (hlen:xs.length+m≤100000000000) (hbase:base≤w.heap.size)
 (h:∀A' c' w',Own enc k e w' base (.slice A' (xs.length+m) c') (xs++ys)→w.grownBy w' v.ownBlock→(A'.map Addr.block=v.ownBlock∨A'.map Addr.block=some w.heap.size)→K (a.put o.dst (.slice A' (xs.length+m) c')) w'):o.wp P a w K Q:=by
 obtain⟨A',c',w',hrun,h2,h3,h4⟩:=ZiU (P:=P) w t o.type hT he h1 v xs hown B A m c ys hr hlen hbase
 unfold Oper.wp execOp
 simp only[ho,resolve,invoke,builtin,Sem.run_bind,Sem.run_pure,Result.andThen_ok,List.map_toArray,List.map_cons,List.map_nil,hs,hx,hrun]
 exact h A' c' w' h2 h3 h4
theorem Zap{ops:Array Oper}{rest:List Oper}{o:Oper}{a:Act}{Q:Exit→Act→World→Prop}(hgd:o.guard=none)(s x:Operand)(t:TypeId)
 (ho:o.op=.call {callee:=.builtin .append,args:=#[s,x],argTypes:=#[t,t]}) {bytes:Nat} (hT:ElemT P t e k bytes) (he:∀x,(enc x).length=k) (h1:∀x,∀u∈enc x,u.oneCell'=true)
 (v:Value) (xs:List α) (hs:a.eval s=v) (hown:Own enc k e w base v xs) (B:Nat) (A:Option Addr) (m c:Nat) (ys:List α) (hx:a.eval x=.slice A m c) (hr:Sl enc k w B A m ys)
 (hlen:xs.length+m≤100000000000) (hbase:base≤w.heap.size)
 (h:∀A' c' w',Own enc k e w' base (.slice A' (xs.length+m) c') (xs++ys)→w.grownBy w' v.ownBlock→(A'.map Addr.block=v.ownBlock∨A'.map Addr.block=some w.heap.size)→wpList P ops Q rest (a.put o.dst (.slice A' (xs.length+m) c')) w'):wpList P ops Q (o::rest) a w:=
 wpList_plain hgd fun _ hK=>ZlW w s x t ho hT he h1 v xs hs hown B A m c ys hx hr hlen hbase fun A' c' w' h2 h3 h4=>hK _ _ (h A' c' w' h2 h3 h4)
theorem Za9{ops:Array Oper}{o:Oper}{a:Act}{K:Act→World→Prop}{Q:Exit→Act→World→Prop}{E:Prop}(hgd:o.guard=none)(s x:Operand)(t:TypeId)
 (ho:o.op=.call {callee:=.builtin .append,args:=#[s,x],argTypes:=#[t,t]}) {bytes:Nat} (hT:ElemT P t e k bytes) (he:∀x,(enc x).length=k) (h1:∀x,∀u∈enc x,u.oneCell'=true)
 (v:Value) (xs:List α) (hs:a.eval s=v) (hown:Own enc k e w base v xs) (B:Nat) (A:Option Addr) (m c:Nat) (ys:List α) (hx:a.eval x=.slice A m c) (hr:Sl enc k w B A m ys)
 (hlen:xs.length+m≤100000000000) (hbase:base≤w.heap.size)
 (h:∀A' c' w',Own enc k e w' base (.slice A' (xs.length+m) c') (xs++ys)→w.grownBy w' v.ownBlock→(A'.map Addr.block=v.ownBlock∨A'.map Addr.block=some w.heap.size)→K (a.put o.dst (.slice A' (xs.length+m) c')) w'):
 if Region.wanted o (yielded ops a.tmps)=true then Oper.wp P o a w K Q else E:=by
 have hw:Region.wanted o (yielded ops a.tmps)=true:=by simp[Region.wanted,hgd]
 rw[if_pos hw]
 exact ZlW w s x t ho hT he h1 v xs hs hown B A m c ys hx hr hlen hbase h
end
theorem bdN{B:Nat}{w0 w1:World}(h:Below B w0 w1)(n:Nat):Below B w0 (w1.drewN n):=⟨h.os,h.tape,h.output,h.size,h.block⟩
theorem Zae{B:Nat}{w0 w1 w2:World}{row:Option Nat}(h:Below B w0 w1)(hg:w1.grownBy w2 row)(hB:B≤w1.heap.size)(hr:∀g,row=some g→B≤g):Below B w0 w2:=h.grown hg hB hr
theorem Own.lit(w:World)(cs:Array Value)(e:TypeId)(xs:List α)(hc:cs.toList=xs.flatMap enc)(he:∀x,(enc x).length=k)(hb:base≤w.heap.size)(hm:xs.length≤maxLen):
 Own enc k e (w.alloc (.cells cs e)) base (.slice (some ⟨w.heap.size,0,none⟩) xs.length xs.length) xs:=by
 have hsz:cs.size=xs.length*k:=by rw[←Zan he xs,←hc];simp
 refine⟨Zan he xs,.inr ⟨w.heap.size,xs.length,cs,rfl,hb,heap_alloc_new w _,Nat.le_refl _,hm,hsz,?_⟩⟩
 rw[hc,←Zan he xs,List.take_length]
theorem Sl.take(h:Sl enc k w B A n xs){m:Nat}(hm:m≤n):Sl enc k w B A m (xs.take m):=
 ⟨by rw[List.length_take];have:=h.1;omega,fun hn=>by
  obtain⟨b,off,e,hb,hc⟩:=h.2 (by omega)
  refine⟨b,off,e,hb,fun i x hi j u hj=>hc i x ?_ j u hj⟩
  have hi':=(List.getElem?_eq_some_iff.1 hi).1
  rw[List.length_take] at hi'
  rw[List.getElem?_take_of_lt (by omega)] at hi
  exact hi⟩
theorem Sl.drop{b off:Nat}(h:Sl enc k w B (some ⟨b,off,none⟩) n xs){m:Nat}(hm:m≤n):Sl enc k w B (some ⟨b,off+m*k,none⟩) (n-m) (xs.drop m):=
 ⟨by rw[List.length_drop];have:=h.1;omega,fun hn=>by
  obtain⟨b',off',e,hb,hc⟩:=h.2 (by omega)
  injection e with e
  injection e with e1 e2
  subst e1;subst e2
  refine⟨b,off+m*k,rfl,hb,fun i x hi j u hj=> ?_⟩
  rw[List.getElem?_drop] at hi
  have:=hc (m+i) x hi j u hj
  rwa [Nat.add_mul,←Nat.add_assoc] at this⟩
theorem Sl.grown{row:Option Nat}(h:Sl enc k w B A n xs)(hg:w.grownBy w' row)(hB:B≤w.heap.size)(hr:∀g,row=some g→B≤g):Sl enc k w' B A n xs:=
 h.keep fun p hp=>World.cell?_of_block (hg.block p.block (by omega) (fun e=>by have:=hr _ e.symm;omega))
theorem Sl.drewN(h:Sl enc k w B A n xs)(m:Nat):Sl enc k (w.drewN m) B A n xs:=h
theorem Sl.drew(h:Sl enc k w B A n xs):Sl enc k w.drew B A n xs:=h
theorem Sl.alloc(h:Sl enc k w B A n xs)(hB:B≤w.heap.size)(o:Obj):Sl enc k (w.alloc o) B A n xs:=h.keep fun p hp=>World.cell?_alloc_lt w o p (by omega)
def RetOwn(enc:α→List Value)(k:Nat)(e:TypeId)(base:Nat)(w:World)(xs:List α)(en:Ending)(w':World):Prop:=
 ∃A c,en=.returned (.slice A xs.length c)∧Own enc k e w' base (.slice A xs.length c) xs∧Below w.heap.size w w'
def RetOwn2(enc:α→List Value)(k:Nat)(e:TypeId)(base:Nat)(w:World)(r:List α×Int)(en:Ending)(w':World):Prop:=
 ∃A c,en=.returned (.tuple #[.slice A r.1.length c,.int .i64 r.2])∧Own enc k e w' base (.slice A r.1.length c) r.1∧Below w.heap.size w w'
theorem RetOwn2.mk{A:Option Addr}{c:Nat}{er:Int}{r:List α×Int}{en:Ending}(h:en=.returned (.tuple #[.slice A n c,.int .i64 er]))(hr:r=(xs,er))(ho:Own enc k e w' base (.slice A n c) xs)(hb:Below w.heap.size w w'):RetOwn2 enc k e base w r en w':=by
 obtain⟨A',c',hv,_⟩:=ho.form
 injection hv with _ hn _
 subst hn;subst hr
 exact⟨A,c,h,ho,hb⟩
theorem RetOwn.mk{A:Option Addr}{c:Nat}{en:Ending}(h:en=.returned (.slice A n c))(ho:Own enc k e w' base (.slice A n c) xs)(hb:Below w.heap.size w w'):RetOwn enc k e base w xs en w':=by
 obtain⟨A',c',hv,_⟩:=ho.form
 injection hv with _ hn _
 subst hn
 exact⟨A,c,h,ho,hb⟩
end
end
section
open Go.RowKit Go.Shelf
def S(l:List UInt8):Value:=.string ⟨l.toArray⟩
def isDig(b:UInt8):Bool:=48≤b&&b≤57
def digL(a:List UInt8):List UInt8×Bool:=
 let s:=Lib.trimPrefix a [45]
 if s.all isDig then(s.dropWhile (·==48),Lib.hasPrefix a [45]&& !(s.dropWhile (·==48)).isEmpty) else([],false)
def canonL(a:List UInt8):List UInt8:=if(digL a).2 then 45::(digL a).1 else(digL a).1
def digSet:List UInt8:=[48,49,50,51,52,53,54,55,56,57]
theorem ZdZ(b:UInt8):digSet.contains b=isDig b:=by
 have h:∀n:Fin 256,digSet.contains (UInt8.ofNat n.val)=isDig (UInt8.ofNat n.val):=by decide+kernel
 have:=h ⟨b.toNat,b.toNat_lt⟩
 simpa using this
theorem ZbQ{α:Type}(p:α→Bool)(l:List α):l.dropWhile p=[]↔l.all p=true:=by
 induction l with
 |nil=>simp
 |cons a l ih=>
  rw[List.dropWhile_cons]
  cases h:p a<;>simp[h] at ih ⊢
  exact ih
theorem Zcz{α:Type}(p:α→Bool)(l:List α)(h:l.dropWhile p≠[]):p ((l.dropWhile p).head h)=false:=by
 induction l with
 |nil=>simp at h
 |cons a l ih=>
  cases hp:p a with
  |true=>
   have e:(a::l).dropWhile p=l.dropWhile p:=by rw[List.dropWhile_cons,hp];rfl
   simp only[e] at h ⊢
   exact ih h
  |false=>
   have e:(a::l).dropWhile p=a::l:=by rw[List.dropWhile_cons,hp];rfl
   simp only[e,List.head_cons]
   exact hp
theorem ZfO(s:List UInt8):(Lib.trimS s digSet=[])↔s.all isDig=true:=by
 have hc:(fun x=>digSet.contains x)=isDig:=funext ZdZ
 unfold Lib.trimS Lib.trimLeftS Lib.trimRightS
 rw[hc,ZbQ]
 constructor
 ·intro h
  by_cases hn:s.reverse.dropWhile isDig=[]
  ·rw[ZbQ] at hn;simpa using hn
  ·have h1:=Zcz isDig s.reverse hn
   rw[List.all_reverse,List.all_eq_true] at h
   rw[h _ (List.head_mem hn)] at h1
   cases h1
 ·intro h
  have:s.reverse.dropWhile isDig=[]:=by rw[ZbQ];simpa using h
  rw[this];rfl
theorem Zag(l:List UInt8):(⟨l.toArray⟩:ByteArray).size=l.length:=by simp[ByteArray.size]
theorem Zky(s:List UInt8)(w:World)(hs:s.length≤1000000000):
 Calls Tryz.prog 190 #[S s,.string ⟨#[48,49,50,51,52,53,54,55,56,57]⟩] w fun e w'=>e=.returned (S (Lib.trimS s digSet))∧Below w.heap.size w w':=by
 by_cases h0:s.length=0
 ·refine(Any.strings_Trim_empty Tryz.lays160 ⟨s.toArray⟩ _ w (.inl (by rw[Zag];exact h0))).mono ?_
  rintro e w' ⟨rfl,rfl⟩
  obtain rfl:s=[]:=List.eq_nil_of_length_eq_zero h0
  exact⟨rfl,Below.refl _ _⟩
 ·refine(Any.strings_Trim_set Tryz.lays160 (fun _=>by kernel_rfl) (by kernel_rfl) ⟨s.toArray⟩ ⟨#[48,49,50,51,52,53,54,55,56,57]⟩ w (by decide) (by rw[Zag];omega) (by rw[Zag];omega) (by decide) (fun j b hb=> ?_)).mono ?_
  ·have h1:∀b∈([48,49,50,51,52,53,54,55,56,57]:List UInt8),b.toNat<128:=by decide
   exact h1 b (List.mem_of_getElem? hb)
  ·rintro e w' ⟨rfl,q,rfl⟩
   exact⟨rfl,bdN (((Below.refl _ w).alloc (Nat.le_refl _) _).alloc (by simp) _) q⟩
theorem Zbx(a p:List UInt8):(Lib.trimPrefix a p).length≤a.length:=by
 unfold Lib.trimPrefix
 split
 ·rw[List.length_drop];omega
 ·omega
theorem Zhk(l:List UInt8):(⟨l.toArray⟩:ByteArray).data.toList=l:=by simp
theorem ZeO(a:List UInt8)(w:World)(ha:a.length≤1000000000):
 Calls Tryz.prog 153 #[S a] w fun e w'=>e=.returned (.tuple #[S (digL a).1,.bool (digL a).2])∧Below w.heap.size w w':=by
 have HC:=hdz (show ∀W,Calls Tryz.prog 189 #[.string ⟨a.toArray⟩,.string ⟨#[45]⟩] W fun e w'=>e=.returned (.tuple #[.string ⟨(Lib.trimPrefix a [45]).toArray⟩,.bool (Lib.hasPrefix a [45])])∧w'=W from fun W=>Tryz.strings_CutPrefix ⟨a.toArray⟩ ⟨#[45]⟩ W)
 have hl:=Zbx a [45]
 have HDG:=hdz (show digL a=if(Lib.trimPrefix a [45]).all isDig then((Lib.trimPrefix a [45]).dropWhile (·==48),Lib.hasPrefix a [45]&& !((Lib.trimPrefix a [45]).dropWhile (·==48)).isEmpty) else([],false) from rfl)
 generalize Lib.trimPrefix a [45]=s at*
 generalize Lib.hasPrefix a [45]=neg at*
 have HT:=hdz (show ∀W,Calls Tryz.prog 191 #[.string ⟨s.toArray⟩,.string ⟨#[48]⟩] W fun e w'=>e=.returned (.string ⟨(s.dropWhile (·==48)).toArray⟩)∧w'=W from fun W=>Tryz.strings_TrimLeft_one ⟨s.toArray⟩ 48 (by decide) W)
 have HM:=hdz (fun W=>Zky s W (by omega))
 unfold S at*
 cases hall:s.all isDig with
 |true=>
  rw[hall] at HDG
  simp only[if_true] at HDG
  have hn:=(ZfO s).2 hall
  rw[hn] at HM
  clear hall hn
  generalize s.dropWhile (·==48)=t at*
  by_cases htn:t=[]
  ·subst htn
   cases neg<;>(
    go_enter Tryz.func153,Tryz.ntmps153
    go_wp2_with (first
     |(go_at_call 189;refine(HC.out _).mono ?_;rintro e w1 ⟨rfl,rfl⟩)
     |(go_at_call 190;refine(HM.out _).mono ?_;rintro e w2 ⟨rfl,hb2⟩)
     |(go_at_call 191;refine(HT.out _).mono ?_;rintro e w3 ⟨rfl,rfl⟩))
    go_ret2
    rw[HDG.out]
    exact⟨rfl,hb2⟩)
  ·have hte:t.isEmpty=false:=by cases t with|nil=>exact absurd rfl htn|cons _ _=>rfl
   have hte2:(⟨t.toArray⟩:ByteArray).toList.isEmpty=false:=by rw[Lib.toList_data];simpa using hte
   have hte3:(!(⟨t.toArray⟩:ByteArray).toList.isEmpty)=true:=by rw[hte2];rfl
   cases neg<;>(
    go_enter Tryz.func153,Tryz.ntmps153
    go_wp2_with (first
     |(go_at_call 189;refine(HC.out _).mono ?_;rintro e w1 ⟨rfl,rfl⟩)
     |(go_at_call 190;refine(HM.out _).mono ?_;rintro e w2 ⟨rfl,hb2⟩)
     |(go_at_call 191;refine(HT.out _).mono ?_;rintro e w3 ⟨rfl,rfl⟩))
    go_ret2
    rw[HDG.out,hte]
    exact⟨rfl,hb2⟩)
 |false=>
  rw[hall] at HDG
  simp only[Bool.false_eq_true,if_false] at HDG
  have hn:Lib.trimS s digSet≠[]:=fun h=>by rw[(ZfO s).1 h] at hall;cases hall
  clear hall
  generalize Lib.trimS s digSet=t at*
  have hte:t.isEmpty=false:=by cases t with|nil=>exact absurd rfl hn|cons _ _=>rfl
  have hte2:(⟨t.toArray⟩:ByteArray).toList.isEmpty=false:=by rw[Lib.toList_data];simpa using hte
  have hte3:(!(⟨t.toArray⟩:ByteArray).toList.isEmpty)=true:=by rw[hte2];rfl
  go_enter Tryz.func153,Tryz.ntmps153
  go_wp2_with (first
   |(go_at_call 189;refine(HC.out _).mono ?_;rintro e w1 ⟨rfl,rfl⟩)
   |(go_at_call 190;refine(HM.out _).mono ?_;rintro e w2 ⟨rfl,hb2⟩))
  go_ret2
  rw[HDG.out]
  exact⟨rfl,hb2⟩
theorem Zfe{α:Type}(p:α→Bool)(l:List α):(l.dropWhile p).length≤l.length:=by
 induction l with
 |nil=>simp
 |cons a l ih=>
  rw[List.dropWhile_cons]
  split
  ·rw[List.length_cons];omega
  ·exact Nat.le_refl _
theorem ZaH(a:List UInt8):(digL a).1.length≤a.length:=by
 unfold digL
 simp only
 split
 ·exact Nat.le_trans (Zfe _ _) (Zbx a [45])
 ·simp
def ofL(n:Int):List UInt8:=canonL (Lib.itoa n)
theorem ZbR(u:Nat)(h:u<10^19):(Lib.decDigits u).length≤19:=by
 have:∀k u,u<10^(k+1)→(Lib.decDigits u).length≤k+1:=by
  intro k
  induction k with
  |zero=>intro u h;rw[Lib.decDigits,dif_pos (by omega)];simp
  |succ k ih=>
   intro u h
   rw[Lib.decDigits]
   split
   ·simp
   ·rw[List.length_append]
    have:=ih (u/10) (by rw[Nat.pow_succ] at h;omega)
    simp;omega
 exact this 18 u h
end
section
open Go.RowKit Go.Shelf
def Pow(w:World):Prop:=Lib.TabIs Tryz.prog w "internal/strconv.uint64pow10" .u64 Lib.pow10Tab
theorem Pow.here{w w':World}(h:Pow w)(hb:Below w.heap.size w w'):Pow w':=Lib.tabBelow_of_tabIs h w' hb
end
section
open Go.RowKit Go.Shelf
def BlkB(w:World)(p:Nat)(cs:Array Value)(T:TypeId):Prop:=w.heap[p]?=some (.cells cs T (0,0))
section
variable {w w' W W':World} {p:Nat} {cs:Array Value} {T:TypeId}
theorem BlkB.lt(h:BlkB w p cs T):p<w.heap.size:=(Array.getElem?_eq_some_iff.1 h).1
theorem BlkB.cell(h:BlkB w p cs T)(j:Nat){v:Value}(hj:cs[j]?=some v):w.cell? ⟨p,j,none⟩=some v:=(cell_of_row w p j cs T (0,0) h).trans hj
theorem BlkB.frozen(h:BlkB w p cs T)(j:Nat):w.frozen? ⟨p,j,none⟩=false:=by
 unfold BlkB at h
 simp[World.frozen?,h]
theorem BlkB.here(h:BlkB w p cs T)(hb:Below w.heap.size w w'):BlkB w' p cs T:=(hb.block p h.lt).trans h
theorem BlkB.alloc(h:BlkB w p cs T)(o:Obj):BlkB (w.alloc o) p cs T:=(Below.heap_alloc w o p h.lt).trans h
theorem BlkB.far(h:BlkB w p cs T){a:Addr}(hp:p≠a.block)(u:Value):BlkB (w.setCell a u) p cs T:=(Below.heap_setCell w a u p hp).trans h
theorem BlkB.set(h:BlkB w p cs T)(j:Nat)(u:Value):BlkB (w.setCell ⟨p,j,none⟩ u) p (cs.setIfInBounds j u) T:=heap_setCell_same w p j cs T u h
end
theorem Zhl{w w':World}{name:String}{v:Array Value}(h:w.var? Tryz.prog name=some v)(hb:Below w.heap.size w w'):w'.var? Tryz.prog name=some v:=by
 unfold World.var? at*
 cases hg:Tryz.prog.globalNamed name with
 |none=>simp[hg] at h
 |some g=>
  simp only[hg,Option.bind_some] at h ⊢
  have hlt:g<w.heap.size:=by
   rcases Nat.lt_or_ge g w.heap.size with h'|h'
   ·exact h'
   ·rw[Array.getElem?_eq_none h'] at h;simp at h
  rw[hb.block g hlt]
  exact h
structure Env (w:World):Prop where
 pow:Pow w
 syn:∃tp p,w.var? Tryz.prog "strconv.ErrSyntax" =some #[.iface tp p]
 rng:∃tp p,w.var? Tryz.prog "strconv.ErrRange" =some #[.iface tp p]
theorem Env.here{w w':World}(h:Env w)(hb:Below w.heap.size w w'):Env w':=
 ⟨h.pow.here hb,h.syn.elim fun tp h1=>h1.elim fun p h2=>⟨tp,p,Zhl h2 hb⟩,h.rng.elim fun tp h1=>h1.elim fun p h2=>⟨tp,p,Zhl h2 hb⟩⟩
section
variable {w w' W W':World} {p:Nat} {cs:Array Value} {T:TypeId}
structure Kp (w:World) (bs:List (Nat×Array Value×TypeId)) (W:World):Prop where
 pow:Env w
 bl:Below w.heap.size w W
 own:∀b∈bs,w.heap.size≤b.1
 ord:(bs.map (·.1)).Pairwise (fun a b=>a≠b)
 blk:∀b∈bs,BlkB W b.1 b.2.1 b.2.2
variable {bs:List (Nat×Array Value×TypeId)}
theorem Kp.start(hp:Env w):Kp w [] w:=⟨hp,Below.refl _ _,fun _ h=>by simp at h,.nil,fun _ h=>by simp at h⟩
theorem Kp.pw(h:Kp w bs W):Env W:=h.pow.here h.bl
theorem Kp.po(h:Kp w bs W):Pow W:=h.pw.pow
theorem Kp.here(h:Kp w bs W)(hb:Below W.heap.size W W'):Kp w bs W':=
 ⟨h.pow,h.bl.trans (hb.mono h.bl.size),h.own,h.ord,fun b hm=>(h.blk b hm).here hb⟩
theorem Kp.drew(h:Kp w bs W):Kp w bs W.drew:=h.here (Below.refl _ W).drew
theorem Kp.drewN(h:Kp w bs W)(n:Nat):Kp w bs (W.drewN n):=h.here (bdN (Below.refl _ W) n)
theorem Kp.alloc(h:Kp w bs W)(o:Obj):Kp w bs (W.alloc o):=h.here ((Below.refl _ W).alloc (Nat.le_refl _) o)
theorem Kp.new(h:Kp w bs W)(p:Nat)(hp:p=W.heap.size)(cs:Array Value)(T:TypeId):Kp w ((p,cs,T)::bs) (W.alloc (.cells cs T)):=by
 subst hp
 have h':=h.alloc (.cells cs T)
 refine⟨h'.pow,h'.bl,?_,?_,?_⟩
 ·intro b hb
  rcases List.mem_cons.1 hb with rfl|hb
  ·exact h.bl.size
  ·exact h.own b hb
 ·refine .cons (fun b hb=> ?_) h.ord
  obtain⟨x,hx,rfl⟩:=List.mem_map.1 hb
  exact fun e=>Nat.lt_irrefl _ (e▸(h.blk x hx).lt)
 ·intro b hb
  rcases List.mem_cons.1 hb with rfl|hb
  ·exact heap_alloc_new W _
  ·exact h'.blk b hb
theorem Kp.at_(h:Kp w bs W)(i:Nat)(hb:bs[i]?=some (p,cs,T)):BlkB W p cs T:=h.blk _ (List.mem_of_getElem? hb)
theorem Kp.c(h:Kp w bs W)(i j:Nat){v:Value}(hb:bs[i]?=some (p,cs,T))(hv:cs[j]?=some v):W.cell? ⟨p,j,none⟩=some v:=(h.at_ i hb).cell j hv
theorem Kp.f(h:Kp w bs W)(i j:Nat)(hb:bs[i]?=some (p,cs,T)):W.frozen? ⟨p,j,none⟩=false:=(h.at_ i hb).frozen j
theorem Kp.lt(h:Kp w bs W)(i:Nat)(hb:bs[i]?=some (p,cs,T)):p<W.heap.size:=(h.at_ i hb).lt
theorem Kp.old(h:Kp w bs W)(i:Nat)(hb:bs[i]?=some (p,cs,T)):w.heap.size≤p:=h.own _ (List.mem_of_getElem? hb)
theorem Kp.ne(h:Kp w bs W)(i k:Nat){q:Nat}{ds:Array Value}{U:TypeId}(hb:bs[i]?=some (p,cs,T))(hc:bs[k]?=some (q,ds,U))(hik:i≠k):p≠q:=by
 have hi:=(List.getElem?_eq_some_iff.1 hb).1
 have hk:=(List.getElem?_eq_some_iff.1 hc).1
 have hb':=(List.getElem?_eq_some_iff.1 hb).2
 have hc':=(List.getElem?_eq_some_iff.1 hc).2
 have ho:=List.pairwise_iff_getElem.1 h.ord
 rcases Nat.lt_or_ge i k with h1|h1
 ·have:=ho i k (by simpa using hi) (by simpa using hk) h1
  simp only[List.getElem_map,hb',hc'] at this
  exact this
 ·have:=ho k i (by simpa using hk) (by simpa using hi) (by omega)
  simp only[List.getElem_map,hb',hc'] at this
  exact fun e=>this e.symm
theorem Kp.set(h:Kp w bs W)(i j:Nat)(hb:bs[i]?=some (p,cs,T))(v:Value):Kp w (bs.set i (p,cs.setIfInBounds j v,T)) (W.setCell ⟨p,j,none⟩ v):=by
 have hbl:=(Below.refl w.heap.size W).setCell (p:=⟨p,j,none⟩) (h.old i hb) v
 have hm:(bs.set i (p,cs.setIfInBounds j v,T)).map (·.1)=bs.map (·.1):=by
  refine List.ext_getElem? fun k=> ?_
  rw[List.getElem?_map,List.getElem?_map,List.getElem?_set]
  split
  ·rename_i e
   subst e
   rw[hb]
   split
   ·rfl
   ·rename_i e2;exact absurd (List.getElem?_eq_some_iff.1 hb).1 e2
  ·rfl
 refine⟨h.pow,h.bl.trans hbl,?_,by rw[hm];exact h.ord,?_⟩
 ·intro b hx
  rcases List.mem_or_eq_of_mem_set hx with hx|rfl
  ·exact h.own b hx
  ·exact h.old i hb
 ·intro b hx
  obtain⟨k,hk⟩:=List.getElem?_of_mem hx
  rw[List.getElem?_set] at hk
  split at hk
  ·split at hk
   ·injection hk with hk
    subst hk
    exact(h.at_ i hb).set j v
   ·cases hk
  ·rename_i hik
   obtain⟨q,ds,U⟩:=b
   exact(h.at_ k hk).far (a:=⟨p,j,none⟩) (h.ne k i hk hb (fun e=>hik e.symm)) v
end
def Gives(f:FuncId)(args:Array Value)(r:Value):Prop:=∀W,Env W→Calls Tryz.prog f args W fun e w'=>e=.returned r∧Below W.heap.size W w'
end
section
open Go.RowKit Go.Shelf
def txtL(n:Int):List UInt8:=if n=0 then[] else if n<0 then 45::Lib.decDigits n.natAbs else Lib.decDigits n.natAbs
def digs(m:Nat):List UInt8:=if m=0 then[] else Lib.decDigits m
theorem ZaN(m:Nat)(h:m≠0):digs m=digs (m/10)++[UInt8.ofNat (48+m%10)]:=by
 unfold digs
 rw[if_neg h,Lib.decDigits]
 split
 ·rename_i hlt
  rw[if_pos (by omega),show m%10=m by omega];rfl
 ·rename_i hlt
  rw[if_neg (by omega)]
theorem Zmh(r:Nat)(h:r<10):Utf8.encode (48+(r:Int))=⟨#[UInt8.ofNat (48+r)]⟩:=by
 have:∀r:Fin 10,Utf8.encode (48+(r.val:Int))=⟨#[UInt8.ofNat (48+r.val)]⟩:=by decide+kernel
 exact this ⟨r,h⟩
theorem Zd0(k:Nat):Utf8.encode (48+(k:Int)%10)=⟨#[UInt8.ofNat (48+k%10)]⟩:=by
 have:=Zmh (k%10) (by omega)
 rwa [show((k%10:Nat):Int)=(k:Int)%10 by omega] at this
theorem Zbr(k:Nat):(Utf8.encode (48+(k:Int)%10)).size≤1:=by rw[Zd0];exact Nat.le_refl _
theorem Zhm(m:Nat)(h:m<10^19):(digs m).length≤19:=by
 unfold digs
 split
 ·simp
 ·exact ZbR m h
theorem Zhn(m:Nat)(h:m≠0):1≤(digs m).length:=by rw[ZaN m h,List.length_append];simp
theorem Zb5(a b:List UInt8):(⟨a.toArray⟩:ByteArray)++⟨b.toArray⟩=⟨(a++b).toArray⟩:=ByteArray.mk_append_mk a b
theorem ZfP(d:Nat)(h:d<10):isDig (UInt8.ofNat (48+d))=true:=by
 have:∀d:Fin 10,isDig (UInt8.ofNat (48+d.val))=true:=by decide+kernel
 exact this ⟨d,h⟩
theorem ZcS(m:Nat):(digs m).all isDig=true:=by
 induction m using Nat.strongRecOn with
 |_ m ih=>
  by_cases h:m=0
  ·subst h;rfl
  ·rw[ZaN m h,List.all_append,ih (m/10) (by omega)]
   simp only[List.all_cons,List.all_nil,Bool.and_true,Bool.true_and]
   exact ZfP (m%10) (by omega)
theorem ZcT(m:Nat)(h:m≠0):∃b l,digs m=b::l∧(b==48)=false∧(b==45)=false:=by
 induction m using Nat.strongRecOn with
 |_ m ih=>
  rw[ZaN m h]
  by_cases h10:m/10=0
  ·rw[h10]
   refine⟨UInt8.ofNat (48+m%10),[],rfl,?_,?_⟩
   ·have:∀d:Fin 10,d.val≠0→(UInt8.ofNat (48+d.val)==48)=false:=by decide+kernel
    exact this ⟨m%10,by omega⟩ (by simp only;omega)
   ·have:∀d:Fin 10,(UInt8.ofNat (48+d.val)==45)=false:=by decide+kernel
    exact this ⟨m%10,by omega⟩
  ·obtain⟨b,l,e,h1,h2⟩:=ih (m/10) (by omega) h10
   rw[e]
   exact⟨b,l++[UInt8.ofNat (48+m%10)],rfl,h1,h2⟩
theorem ZeP(m:Nat)(h:m≠0):digL (digs m)=(digs m,false):=by
 obtain⟨b,l,e,h1,h2⟩:=ZcT m h
 have hall:=ZcS m
 have hp:Lib.hasPrefix (digs m) [45]=false:=by
  rw[e];unfold Lib.hasPrefix
  have h3:(45==b)=false:=by
   rw[Bool.eq_false_iff] at h2 ⊢
   intro hh;apply h2;simp at hh ⊢; exact hh.symm
  simp[List.isPrefixOf,h3]
 have ht:Lib.trimPrefix (digs m) [45]=digs m:=by unfold Lib.trimPrefix;rw[hp];rfl
 unfold digL
 simp only[ht,hall,hp,if_true,Bool.false_and]
 rw[e,List.dropWhile_cons,h1]
 rfl
theorem Zmi(m:Nat):ofL (m:Int)=digs m:=by
 unfold ofL Lib.itoa
 rw[if_neg (by omega)]
 by_cases h:m=0
 ·subst h
  show canonL (Lib.decDigits 0)=_
  rw[Lib.decDigits,dif_pos (by omega)]
  decide+kernel
 ·have e:Lib.decDigits (Int.toNat (m:Int))=digs m:=by unfold digs;rw[if_neg h];simp
  rw[e]
  unfold canonL
  rw[ZeP m h]
  rfl
theorem Za2(m:Nat):txtL (m:Int)=digs m:=by
 unfold txtL digs
 by_cases h:m=0
 ·subst h;rfl
 ·rw[if_neg (by omega),if_neg (by omega),if_neg h];simp
end
section
open Go.RowKit Go.Shelf
def gv:List Nat→Nat
 |[]=>0
 |x::xs=>x+1000000000*gv xs
def Gs(xs:List Nat):Prop:=∀x∈xs,x<1000000000
def Nz(xs:List Nat):Prop:=xs.getLast?≠some 0
structure Mag (xs:List Nat) (v:Nat):Prop where
 gs:Gs xs
 nz:Nz xs
 val:gv xs=v
theorem Zb6(xs ys:List Nat):gv (xs++ys)=gv xs+1000000000^xs.length*gv ys:=by
 induction xs with
 |nil=>simp[gv]
 |cons x xs ih=>
  rw[List.cons_append,gv,ih,gv,List.length_cons,Nat.pow_succ,Nat.mul_add,Nat.add_assoc,←Nat.mul_assoc,Nat.mul_comm (1000000000^xs.length) 1000000000]
theorem Zby(xs:List Nat)(g:Nat):gv (xs++[g])=gv xs+1000000000^xs.length*g:=by rw[Zb6];simp[gv]
theorem Gs.nil:Gs []:=fun x hx=>by cases hx
theorem Gs.snoc{xs:List Nat}{g:Nat}(h:Gs xs)(hg:g<1000000000):Gs (xs++[g]):=fun x hx=>by
 rcases List.mem_append.1 hx with h1|h1
 ·exact h x h1
 ·simp at h1;rw[h1];exact hg
theorem Gs.take{xs:List Nat}(h:Gs xs)(k:Nat):Gs (xs.take k):=fun x hx=>h x (List.mem_of_mem_take hx)
theorem Gs.at_{xs:List Nat}(h:Gs xs){i g:Nat}(hi:xs[i]?=some g):g<1000000000:=h g (List.mem_of_getElem? hi)
theorem Zcy{xs:List Nat}(h:Gs xs):gv xs<1000000000^xs.length:=by
 induction xs with
 |nil=>simp[gv]
 |cons x xs ih=>
  have h1:=ih (fun y hy=>h y (by simp[hy]))
  have h2:=h x (by simp)
  rw[gv,List.length_cons,Nat.pow_succ]
  omega
theorem ZeQ{xs:List Nat}(hn:xs≠[])(h:Nz xs):1000000000^(xs.length-1)≤gv xs:=by
 obtain⟨ys,g,rfl⟩:∃ys g,xs=ys++[g]:=⟨xs.dropLast,xs.getLast hn,(List.dropLast_concat_getLast hn).symm⟩
 have hg:g≠0:=fun e=>h (by rw[e];simp)
 rw[Zby,List.length_append,List.length_singleton,Nat.add_sub_cancel]
 exact Nat.le_trans (Nat.le_mul_of_pos_right _ (by omega)) (Nat.le_add_left _ _)
theorem Zbf(xs:List Nat)(i:Nat)(g:Nat)(h:xs[i]?=some g):gv (xs.take (i+1))=gv (xs.take i)+1000000000^i*g:=by
 obtain⟨hi,rfl⟩:=List.getElem?_eq_some_iff.1 h
 rw[List.take_succ_eq_append_getElem hi,Zby,List.length_take,Nat.min_eq_left (by omega)]
theorem ZaZ(xs:List Nat)(i:Nat)(g:Nat)(h:xs[i]?=some g):gv (xs.drop i)=g+1000000000*gv (xs.drop (i+1)):=by
 obtain⟨hi,rfl⟩:=List.getElem?_eq_some_iff.1 h
 rw[List.drop_eq_getElem_cons hi,gv]
theorem Zbs(xs:List Nat)(i:Nat)(hi:i≤xs.length):gv xs=gv (xs.take i)+1000000000^i*gv (xs.drop i):=by
 have:=Zb6 (xs.take i) (xs.drop i)
 rw[List.take_append_drop,List.length_take,Nat.min_eq_left hi] at this
 exact this
theorem Mag.zero:Mag [] 0:=⟨Gs.nil,by unfold Nz;simp,rfl⟩
theorem Mag.nil_iff{xs:List Nat}{v:Nat}(h:Mag xs v):xs=[]↔v=0:=by
 constructor
 ·rintro rfl;exact h.val.symm
 ·intro hv
  by_cases hn:xs=[]
  ·exact hn
  ·have:=ZeQ hn h.nz
   rw[h.val,hv] at this
   have:=Nat.pow_pos (n:=xs.length-1) (show 0<1000000000 by decide)
   omega
theorem Mag.len{xs:List Nat}{v k:Nat}(h:Mag xs v)(hv:v<1000000000^k):xs.length≤k:=by
 by_cases hn:xs=[]
 ·rw[hn];simp
 ·have h1:=ZeQ hn h.nz
  rw[h.val] at h1
  have h2:=Nat.lt_of_le_of_lt h1 hv
  have:=(Nat.pow_lt_pow_iff_right (show 1<1000000000 by decide)).1 h2
  omega
theorem Zho{α:Type}{P:List α→Prop}(h0:P [])(h1:∀l b,P l→P (l++[b]))(l:List α):P l:=by
 have:∀l:List α,P l.reverse:=by
  intro l
  induction l with
  |nil=>exact h0
  |cons a l ih=>rw[List.reverse_cons];exact h1 _ _ ih
 have h:=this l.reverse
 rwa [List.reverse_reverse] at h
def valD(l:List UInt8):Nat:=l.foldl (fun n b=>10*n+(b.toNat-48)) 0
theorem Zdm(l:List UInt8)(n:Nat):l.foldl (fun n b=>10*n+(b.toNat-48)) n=n*10^l.length+valD l:=by
 induction l generalizing n with
 |nil=>simp[valD]
 |cons b l ih=>
  have e:valD (b::l)=(10*0+(b.toNat-48))*10^l.length+valD l:=by unfold valD;rw[List.foldl_cons];exact ih _
  rw[List.foldl_cons,ih,e,List.length_cons,Nat.pow_succ,Nat.add_mul,Nat.mul_comm 10 n,Nat.mul_assoc,Nat.mul_comm 10 (10^l.length),Nat.mul_zero,Nat.zero_add,Nat.add_assoc]
theorem Zbg(l l':List UInt8):valD (l++l')=valD l*10^l'.length+valD l':=by
 unfold valD
 rw[List.foldl_append,Zdm]
 rfl
theorem ZbG(l:List UInt8)(b:UInt8):valD (l++[b])=10*valD l+(b.toNat-48):=by
 rw[Zbg,Nat.mul_comm];simp[valD]
theorem Zao(b:UInt8):isDig b=true↔48≤b.toNat∧b.toNat≤57:=by
 unfold isDig
 simp[UInt8.le_iff_toNat_le]
theorem ZaT{l:List UInt8}:l.all isDig=true→valD l<10^l.length:=by
 refine Zho (P:=fun l=>l.all isDig=true→valD l<10^l.length) ?_ ?_ l
 ·intro _;simp[valD]
 ·intro l b ih h
  rw[List.all_append] at h
  simp only[List.all_cons,List.all_nil,Bool.and_true,Bool.and_eq_true] at h
  have h1:=ih h.1
  have h2:=(Zao b).1 h.2
  rw[ZbG,List.length_append,List.length_singleton,Nat.pow_succ]
  omega
theorem Zkz(b:UInt8)(h:isDig b=true):UInt8.ofNat (48+(b.toNat-48))=b:=by
 have h2:=(Zao b).1 h
 rw[show 48+(b.toNat-48)=b.toNat by omega]
 simp
theorem ZcU{b:UInt8}{l:List UInt8}(h:(b::l).all isDig=true)(hb:(b==48)=false):valD (b::l)≠0:=by
 have h1:isDig b=true:=by simp at h;exact h.1
 have h2:=(Zao b).1 h1
 have h3:b.toNat≠48:=fun e=>by
  have:b=48:=UInt8.toNat_inj.1 e
  rw[this] at hb;simp at hb
 unfold valD
 rw[List.foldl_cons,Zdm]
 have:=Nat.pow_pos (n:=l.length) (show 0<10 by decide)
 have:0<(10*0+(b.toNat-48))*10^l.length:=Nat.mul_pos (by omega) this
 omega
theorem Zb7{l:List UInt8}:l.all isDig=true→(∀b t,l=b::t→(b==48)=false)→digs (valD l)=l:=by
 refine Zho (P:=fun l=>l.all isDig=true→(∀b t,l=b::t→(b==48)=false)→digs (valD l)=l) ?_ ?_ l
 ·intro _ _;simp[valD,digs]
 ·intro l b ih h hz
  have h':=h
  rw[List.all_append] at h
  simp only[List.all_cons,List.all_nil,Bool.and_true,Bool.and_eq_true] at h
  have h2:=(Zao b).1 h.2
  have hne:valD (l++[b])≠0:=by
   cases l with
   |nil=>exact ZcU h' (hz b [] rfl)
   |cons c t=>exact ZcU h' (hz c (t++[b]) rfl)
  rw[ZaN _ hne,ZbG,show(10*valD l+(b.toNat-48))/10=valD l by omega,show(10*valD l+(b.toNat-48))%10=b.toNat-48 by omega,Zkz b h.2,ih h.1 (fun c t e=>hz c (t++[b]) (by rw[e];rfl))]
theorem ZcV(m:Nat):valD (digs m)=m:=by
 induction m using Nat.strongRecOn with
 |_ m ih=>
  by_cases h:m=0
  ·subst h;rfl
  ·rw[ZaN m h,ZbG,ih (m/10) (by omega)]
   have:(UInt8.ofNat (48+m%10)).toNat=48+m%10:=by simp;omega
   omega
def val(a:List UInt8):Int:=if(digL a).2 then-(valD (digL a).1:Int) else valD (digL a).1
theorem ZaU(a:List UInt8):(digL a).1.all isDig=true∧(∀b t,(digL a).1=b::t→(b==48)=false)∧((digL a).2=true→(digL a).1≠[]):=by
 unfold digL
 simp only
 split
 ·rename_i h
  refine⟨?_,?_,?_⟩
  ·rw[List.all_eq_true] at h ⊢
   exact fun x hx=>h x ((List.dropWhile_sublist _).subset hx)
  ·intro b t e
   have e':(Lib.trimPrefix a [45]).dropWhile (·==48)=b::t:=e
   clear e
   have e:=e'
   have hne:(Lib.trimPrefix a [45]).dropWhile (·==48)≠[]:=by rw[e];simp
   have:=Zcz (·==48) (Lib.trimPrefix a [45]) hne
   simp only[e,List.head_cons] at this
   exact this
  ·intro hh
   simp only[Bool.and_eq_true,Bool.not_eq_true'] at hh
   intro e
   have e':(Lib.trimPrefix a [45]).dropWhile (·==48)=[]:=e
   rw[e'] at hh
   simp at hh
 ·simp
theorem Zhp(a:List UInt8):(digL a).1=digs (val a).natAbs:=by
 obtain⟨h1,h2,_⟩:=ZaU a
 unfold val
 split
 ·rw[Int.natAbs_neg,Int.natAbs_natCast,Zb7 h1 h2]
 ·rw[Int.natAbs_natCast,Zb7 h1 h2]
theorem Zff(a:List UInt8):(digL a).2=decide (val a<0):=by
 obtain⟨h1,h2,h3⟩:=ZaU a
 unfold val
 cases hn:(digL a).2 with
 |false=>simp
 |true=>
  have hne:=h3 hn
  have hv:valD (digL a).1≠0:=by
   cases he:(digL a).1 with
   |nil=>exact absurd he hne
   |cons b t=>rw[he] at h1;exact ZcU h1 (h2 b t he)
  simp;omega
theorem Zbh(n:Int):txtL n=(if n<0 then[45] else[])++digs n.natAbs:=by
 unfold txtL digs
 by_cases h:n=0
 ·subst h;rfl
 ·rw[if_neg h,if_neg (by omega:n.natAbs≠0)]
  split<;>rfl
theorem Zd1(a:List UInt8):canonL a=txtL (val a):=by
 unfold canonL
 rw[Zff,Zhp,Zbh]
 by_cases h:val a<0
 ·simp[h]
 ·simp[h]
def padN:Nat→Nat→List UInt8
 |0,_=>[]
 |k+1,g=>padN k (g/10)++[UInt8.ofNat (48+g%10)]
theorem Zhq(k g:Nat):(padN k g).length=k:=by
 induction k generalizing g with
 |zero=>rfl
 |succ k ih=>rw[padN,List.length_append,ih];rfl
theorem ZkA(k:Nat):∀(x g:Nat),x≠0→g<10^k→digs (10^k*x+g)=digs x++padN k g:=by
 induction k with
 |zero=>intro x g hx hg;simp at hg;subst hg;simp[padN]
 |succ k ih=>
  intro x g hx hg
  rw[Nat.pow_succ] at hg
  have e1:10^(k+1)*x+g=10*(10^k*x+g/10)+g%10:=by
   rw[Nat.pow_succ,Nat.mul_add,←Nat.mul_assoc,Nat.mul_comm 10 (10^k)];omega
  have hne:10^(k+1)*x+g≠0:=by
   have:=Nat.mul_pos (Nat.pow_pos (n:=k+1) (show 0<10 by decide)) (Nat.pos_of_ne_zero hx)
   omega
  rw[ZaN _ hne,e1,show(10*(10^k*x+g/10)+g%10)/10=10^k*x+g/10 by omega,show(10*(10^k*x+g/10)+g%10)%10=g%10 by omega,ih x (g/10) hx (by omega),padN,List.append_assoc]
theorem ZiV(k:Nat):∀g:Nat,g<10^(k+1)→(Lib.decDigits g).length≤k+1∧List.replicate (k+1-(Lib.decDigits g).length) 48++Lib.decDigits g=padN (k+1) g:=by
 induction k with
 |zero=>
  intro g hg
  rw[Lib.decDigits,dif_pos (by omega)]
  refine⟨by simp,?_⟩
  simp only[padN,List.nil_append]
  rw[Nat.mod_eq_of_lt (by omega)]
  rfl
 |succ k ih=>
  intro g hg
  rw[Nat.pow_succ] at hg
  by_cases h10:g<10
  ·rw[Lib.decDigits,dif_pos h10]
   refine⟨by simp,?_⟩
   obtain⟨i1,i2⟩:=ih (g/10) (by omega)
   have e0:g/10=0:=by omega
   rw[e0,Lib.decDigits,dif_pos (by omega)] at i2
   rw[padN,e0,←i2,Nat.mod_eq_of_lt h10]
   simp only[List.length_cons,List.length_nil,Nat.zero_add,Nat.add_sub_cancel]
   rw[List.replicate_succ',List.append_assoc,List.append_assoc]
   rfl
  ·rw[Lib.decDigits,dif_neg h10]
   obtain⟨i1,i2⟩:=ih (g/10) (by omega)
   refine⟨by rw[List.length_append];simp;omega,?_⟩
   rw[padN,←i2,List.length_append,List.length_singleton,show k+1+1-((Lib.decDigits (g/10)).length+1)=k+1-(Lib.decDigits (g/10)).length by omega,List.append_assoc]
theorem Zh4(x g:Nat)(hx:x≠0)(hg:g<1000000000):digs (g+1000000000*x)=digs x++(List.replicate (9-(Lib.decDigits g).length) 48++Lib.decDigits g):=by
 have h:=ZkA 9 x g hx (by omega)
 rw[(ZiV 8 g (by omega)).2,←h]
 congr 1
 omega
end
end Go.Proofs.YtpnncoinlopndaaGreatDoor
