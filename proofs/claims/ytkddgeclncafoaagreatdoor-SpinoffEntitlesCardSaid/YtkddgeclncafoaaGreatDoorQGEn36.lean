/- Kp, Ri, KpR, Bz, Sv, CfI, Sm, Im, Rg, Rg2, Ke, Rr, Two. -/
import Derived.Test.YtkddgeclncafoaaGreatDoorQGEn10
import Derived.RangeFuncBound
import Derived.RangeFuncLeaves
import Derived.Shelf.Abstract
import Derived.Shelf.RegionOpen
import Derived.OwnWalkIn
import Derived.TacticsInMore
import Derived.LoopNIn
import Derived.LoopIn
import Derived.Deep.WholeRow
import Derived.Maps.Views
import Derived.Maps.OwnSet
import Derived.StringKeys
import Derived.Maps.RangeWalk
import Derived.Orders
import Derived.OrdersIn
import Derived.OrdersHeld
import Derived.Deep.RegionHeld
import Derived.Laws.Tables
set_option maxRecDepth 20000
set_option maxHeartbeats 1000000
namespace Go.Proofs.YtkddgeclncafoaaGreatDoor
open Go.Lib renaming hid→jq
open Go.RowKit Go.Shelf
section
def BlkB(w:World)(p:Nat)(cs:Array Value)(T:TypeId):Prop:=w.heap[p]?=some (.cells cs T (0,0))
section
variable {w w' W W':World} {p:Nat} {cs:Array Value} {T:TypeId}
theorem BlkB.lt(h:BlkB w p cs T):p<w.1.size:=(Array.getElem?_eq_some_iff.1 h).1
theorem BlkB.cell(h:BlkB w p cs T)(j:Nat){v:Value}(hj:cs[j]?=some v):w.cell? ⟨p,j,none⟩=some v:=(cell_of_row w p j cs T (0,0) h).trans hj
theorem BlkB.frozen(h:BlkB w p cs T)(j:Nat):w.frozen? ⟨p,j,none⟩=false:=by
 unfold BlkB at h;simp[World.frozen?,h]
theorem BlkB.here(h:BlkB w p cs T)(hb:Below w.1.size w w'):BlkB w' p cs T:=(hb.block p h.lt).trans h
theorem BlkB.alloc(h:BlkB w p cs T)(o:Obj):BlkB (w.alloc o) p cs T:=(Below.heap_alloc w o p h.lt).trans h
theorem BlkB.far(h:BlkB w p cs T){a:Addr}(hp:p≠a.block)(u:Value):BlkB (w.setCell a u) p cs T:=(Below.heap_setCell w a u p hp).trans h
theorem BlkB.set(h:BlkB w p cs T)(j:Nat)(u:Value):BlkB (w.setCell ⟨p,j,none⟩ u) p (cs.setIfInBounds j u) T:=heap_setCell_same w p j cs T u h
end
theorem Zfi{w w':World}{name:String}{v:Array Value}(h:w.var? Tryz.prog name=some v)(hb:Below w.1.size w w'):w'.var? Tryz.prog name=some v:=by
 unfold World.var? at*
 cases hg:Tryz.prog.globalNamed name with
 |none=>simp[hg] at h
 |some g=>
  simp only[hg,Option.bind_some] at h ⊢
  have hlt:g<w.1.size:=by
   rcases Nat.lt_or_ge g w.1.size with h'|h'
   ·exact h'
   ·rw[Array.getElem?_eq_none h'] at h;simp at h
  rw[hb.block g hlt];exact h
structure Env (w:World):Prop where
 pow:Pow w
 syn:∃tp p,w.var? Tryz.prog "strconv.ErrSyntax" =some #[.iface tp p]
 rng:∃tp p,w.var? Tryz.prog "strconv.ErrRange" =some #[.iface tp p]
theorem Env.here{w w':World}(h:Env w)(hb:Below w.1.size w w'):Env w':=
 ⟨h.pow.here hb,h.syn.elim fun tp h1=>h1.elim fun p h2=>⟨tp,p,Zfi h2 hb⟩,h.rng.elim fun tp h1=>h1.elim fun p h2=>⟨tp,p,Zfi h2 hb⟩⟩
section
variable {w w' W W':World} {p:Nat} {cs:Array Value} {T:TypeId}
structure Kp (w:World) (bs:List (Nat×Array Value×TypeId)) (W:World):Prop where
 pow:Env w
 bl:Below w.1.size w W
 own:∀b∈bs,w.1.size<=b.1
 ord:(bs.map (·.1)).Pairwise (fun a b=>a≠b)
 blk:∀b∈bs,BlkB W b.1 b.2.1 b.2.2
variable {bs:List (Nat×Array Value×TypeId)}
theorem Kp.start(hp:Env w):Kp w [] w:=⟨hp,Below.refl _ _,fun _ h=>by simp at h,.nil,fun _ h=>by simp at h⟩
theorem Kp.pw(h:Kp w bs W):Env W:=h.pow.here h.bl
theorem Kp.po(h:Kp w bs W):Pow W:=h.pw.pow
theorem Kp.here(h:Kp w bs W)(hb:Below W.1.size W W'):Kp w bs W':=
 ⟨h.pow,h.bl.trans (hb.mono h.bl.size),h.own,h.ord,fun b hm=>(h.blk b hm).here hb⟩
theorem Kp.drew(h:Kp w bs W):Kp w bs W.drew:=h.here (Below.refl _ W).drew
theorem Kp.drewN(h:Kp w bs W)(n:Nat):Kp w bs (W.drewN n):=h.here (bdN (Below.refl _ W) n)
theorem Kp.alloc(h:Kp w bs W)(o:Obj):Kp w bs (W.alloc o):=h.here ((Below.refl _ W).alloc (Nat.le_refl _) o)
theorem Kp.new(h:Kp w bs W)(p:Nat)(hp:p=W.1.size)(cs:Array Value)(T:TypeId):Kp w ((p,cs,T)::bs) (W.alloc (.cells cs T)):=by
 subst hp;have h':=h.alloc (.cells cs T);refine⟨h'.pow,h'.bl,?_,?_,?_⟩
 ·intro b hb
  rcases List.mem_cons.1 hb with rfl|hb
  ·exact h.bl.size
  ·exact h.own b hb
 ·refine .cons (fun b hb=> ?_) h.ord;obtain⟨x,hx,rfl⟩:=List.mem_map.1 hb
  exact fun e=>Nat.lt_irrefl _ (e▸(h.blk x hx).lt)
 ·intro b hb
  rcases List.mem_cons.1 hb with rfl|hb
  ·exact heap_alloc_new W _
  ·exact h'.blk b hb
theorem Kp.at_(h:Kp w bs W)(i:Nat)(hb:bs[i]?=some (p,cs,T)):BlkB W p cs T:=h.blk _ (List.mem_of_getElem? hb)
theorem Kp.c(h:Kp w bs W)(i j:Nat){v:Value}(hb:bs[i]?=some (p,cs,T))(hv:cs[j]?=some v):W.cell? ⟨p,j,none⟩=some v:=(h.at_ i hb).cell j hv
theorem Kp.f(h:Kp w bs W)(i j:Nat)(hb:bs[i]?=some (p,cs,T)):W.frozen? ⟨p,j,none⟩=false:=(h.at_ i hb).frozen j
theorem Kp.lt(h:Kp w bs W)(i:Nat)(hb:bs[i]?=some (p,cs,T)):p<W.1.size:=(h.at_ i hb).lt
theorem Kp.old(h:Kp w bs W)(i:Nat)(hb:bs[i]?=some (p,cs,T)):w.1.size<=p:=h.own _ (List.mem_of_getElem? hb)
theorem Kp.ne(h:Kp w bs W)(i k:Nat){q:Nat}{ds:Array Value}{U:TypeId}(hb:bs[i]?=some (p,cs,T))(hc:bs[k]?=some (q,ds,U))(hik:i≠k):p≠q:=by
 have hi:=(List.getElem?_eq_some_iff.1 hb).1;have hk:=(List.getElem?_eq_some_iff.1 hc).1;have hb':=(List.getElem?_eq_some_iff.1 hb).2;have hc':=(List.getElem?_eq_some_iff.1 hc).2;have ho:=List.pairwise_iff_getElem.1 h.ord
 rcases Nat.lt_or_ge i k with h1|h1
 ·have:=ho i k (by simpa using hi) (by simpa using hk) h1
  simp only[List.getElem_map,hb',hc'] at this;exact this
 ·have:=ho k i (by simpa using hk) (by simpa using hi) (by omega)
  simp only[List.getElem_map,hb',hc'] at this;exact fun e=>this e.symm
theorem Kp.set(h:Kp w bs W)(i j:Nat)(hb:bs[i]?=some (p,cs,T))(v:Value):Kp w (bs.set i (p,cs.setIfInBounds j v,T)) (W.setCell ⟨p,j,none⟩ v):=by
 have hbl:=(Below.refl w.1.size W).setCell (p:=⟨p,j,none⟩) (h.old i hb) v
 have hm:(bs.set i (p,cs.setIfInBounds j v,T)).map (·.1)=bs.map (·.1):=by
  refine List.ext_getElem? fun k=> ?_
  rw[List.getElem?_map,List.getElem?_map,List.getElem?_set]
  split
  ·rename_i e
   subst e;rw[hb]
   split
   ·rfl
   ·rename_i e2;exact absurd (List.getElem?_eq_some_iff.1 hb).1 e2
  ·rfl
 refine⟨h.pow,h.bl.trans hbl,?_,by rw[hm];exact h.ord,?_⟩
 ·intro b hx
  rcases List.mem_or_eq_of_mem_set hx with hx|rfl
  ·exact h.own b hx
  ·exact h.old i hb
 ·intro b hx;obtain⟨k,hk⟩:=List.getElem?_of_mem hx
  rw[List.getElem?_set] at hk
  split at hk
  ·split at hk
   ·injection hk with hk;subst hk;exact(h.at_ i hb).set j v
   ·cases hk
  ·rename_i hik
   obtain⟨q,ds,U⟩:=b
   exact(h.at_ k hk).far (a:=⟨p,j,none⟩) (h.ne k i hk hb (fun e=>hik e.symm)) v
end
def XB(f:FuncId)(args:Array Value)(r:Value):Prop:=∀W,Env W->Calls Tryz.prog f args W fun e w'=>e=.returned r/\Below W.1.size W w'
end
section
attribute [local go_sem] Oper.semAt_some
theorem Zej{α:Type}{enc:α->List Value}{k base:Nat}{e:TypeId}{F:Fence}{nF:Nat}{P:Program}(w:World){ops:Array Oper}{rest:List Oper}{o:Oper}{a:Act}{Q:Exit->Act->World->Prop}(hgd:o.guard=none)(s x:Operand)(t:TypeId)
 (ho:o.op=.call {callee:=.builtin .append,args:=#[s,x],argTypes:=#[t,t]}) {bytes:Nat} (hT:Jz P t e k bytes) (he:∀x,(enc x).length=k) (h1:∀x,∀u∈enc x,u.oneCell'=true)
 (v:Value) (xs:List α) (hs:a.eval s=v) (hown:Own enc k e w base v xs) (B:Nat) (A:Option Addr) (m c:Nat) (ys:List α) (hx:a.eval x=.slice A m c) (hr:Sl enc k w B A m ys)
 (hlen:xs.length+m<=100000000000) (hbase:base<=w.1.size)
 (h:∀A' c' w',Own enc k e w' base (.slice A' (xs.length+m) c') (xs++ys)->w.grownBy w' v.ownBlock->(A'.map Addr.block=v.ownBlock\/A'.map Addr.block=some w.1.size)->wpListIn F nF P ops Q rest (a.put o.dst (.slice A' (xs.length+m) c')) w'):wpListIn F nF P ops Q (o::rest) a w:=by
 refine wpListIn_plain hgd fun K hK=> ?_
 obtain⟨A',c',w',hrun,h2,h3,h4⟩:=ZhM (P:=P) w t o.type hT he h1 v xs hown B A m c ys hr hlen hbase
 unfold Oper.wpIn;refine⟨by simp[Oper.about,ho,resolve,Target.leads,Sem.run_pure],?_⟩;rw[Oper.semAt_plain F _ _ (by rw[ho];intro c hc';cases hc')];simp[execOp,ho,resolve,invoke,builtin,hs,hx,hrun,Result.andThen]
 exact hK _ _ (h A' c' w' h2 h3 h4)
section
variable {w w' W W' X:World} {bs:List (Nat×Array Value×TypeId)} {row:Option Nat} {B:Nat}
def Zek(B:Nat)(W:World)(row:Option Nat):Prop:=∀r,row=some r->B<=r/\∃o:Obj,W.heap[r]?=some o/\o.isCells=false
theorem Kp.turned(h:Kp w bs W)(hg:W.grownBy W' row)(hr:Zek B W row)(hB:w.1.size<=B):Kp w bs W':=by
 refine⟨h.pow,h.bl.trans ⟨hg.os,hg.tape,hg.output,hg.size,fun k hk=>hg.block k (by have:=h.bl.size;omega) (fun e=> ?_)⟩,h.own,h.ord,fun b hb=> ?_⟩
 ·have:=(hr k e.symm).1
  omega
 ·have hb':=h.blk b hb;refine(hg.block b.1 hb'.lt (fun e=> ?_)).trans hb';obtain⟨_,o,ho,hc⟩:=hr b.1 e.symm
  unfold BlkB at hb';rw[hb'] at ho;injection ho with ho;rw[<-ho] at hc
  cases hc
theorem Own.turned{α:Type}{enc:α->List Value}{k base:Nat}{e:TypeId}{v:Value}{xs:List α}(h:Own enc k e W base v xs)(hg:W.grownBy W' row)(hr:Zek B W row):Own enc k e W' base v xs:=by
 refine World.ownsRow.kept h hg ?_
 rcases h.2 with ⟨rfl,_⟩|⟨g,cap,cur,rfl,_,hgc,_⟩
 ·exact .inl rfl
 ·right
  intro e;obtain⟨_,o,ho,hc⟩:=hr g (by rw[<-e];rfl)
  rw[hgc] at ho;injection ho with ho;rw[<-ho] at hc
  cases hc
theorem Box.turned{b:Nat}{t:TypeId}{v:Value}(h:Box W b t v)(hg:W.grownBy W' row)(hr:Zek B W row):Box W' b t v:=by
 refine(hg.block b h.lt (fun e=> ?_)).trans h;obtain⟨_,o,ho,hc⟩:=hr b e.symm
 unfold Box at h;rw[h] at ho;injection ho with ho;rw[<-ho] at hc
 cases hc
theorem ZgE(hb:Below W.1.size W W'):W.grownBy W' none:=⟨hb.os,hb.tape,hb.output,hb.size,fun k hk _=>hb.block k hk⟩
theorem ZjV(hb:Below W.1.size W W')(B:Nat):KeepsFrom B W W':=(KeepsOthers.of_grownBy (ZgE hb) (fun _ _ e=>by cases e)).from B
def KeepS(S:Nat->Prop)(W W':World):Prop:=W.1.size<=W'.1.size/\∀b,S b->b<W.1.size->W'.heap[b]?=W.heap[b]?
theorem KeepS.refl(S:Nat->Prop)(W:World):KeepS S W W:=⟨Nat.le_refl _,fun _ _ _=>rfl⟩
theorem KeepS.trans{S:Nat->Prop}(h:KeepS S W W')(k:KeepS S W' X):KeepS S W X:=⟨Nat.le_trans h.1 k.1,fun b hb hl=>(k.2 b hb (Nat.lt_of_lt_of_le hl h.1)).trans (h.2 b hb hl)⟩
theorem KeepS.below{S:Nat->Prop}(hb:Below W.1.size W W'):KeepS S W W':=⟨hb.size,fun b _ hl=>hb.block b hl⟩
theorem KeepS.set{S:Nat->Prop}{p:Addr}(hp:¬S p.block)(v:Value):KeepS S W (W.setCell p v):=⟨by simp,fun b hb _=>Below.heap_setCell W p v b (fun e=>hp (e▸hb))⟩
theorem KeepS.put{S:Nat->Prop}{l:Nat}(hl:¬S l)(o:Obj):KeepS S W (W.putObj l o):=⟨by simp,fun b hb _=>World.putObj_heap_other (fun e=>hl (e▸hb))⟩
theorem KeepS.grown{S:Nat->Prop}(hg:W.grownBy W' row)(hr:∀r,row=some r->¬S r):KeepS S W W':=⟨hg.size,fun b hb hl=>hg.block b hl (fun e=>hr b e.symm hb)⟩
theorem KeepS.sl{α:Type}{enc:α->List Value}{k n:Nat}{A:Option Addr}{xs:List α}{S:Nat->Prop}{N:Nat}(h:KeepS S W W')(hs:Sl enc k W N A n xs)(hN:∀b,b<N->S b/\b<W.1.size):Sl enc k W' N A n xs:=
 hs.keep fun p hp=>World.cell?_of_block (h.2 p.block (hN _ hp).1 (hN _ hp).2)
theorem KeepS.box{b:Nat}{t:TypeId}{v:Value}{S:Nat->Prop}(h:KeepS S W W')(hs:Box W b t v)(hb:S b):Box W' b t v:=(h.2 b hb hs.lt).trans hs
theorem KeepS.blk{b:Nat}{t:TypeId}{cs:Array Value}{S:Nat->Prop}(h:KeepS S W W')(hs:BlkB W b cs t)(hb:S b):BlkB W' b cs t:=(h.2 b hb hs.lt).trans hs
end
end
section
section
variable {w W:World} {bs:List (Nat×Array Value×TypeId)} {p:Nat} {cs:Array Value} {T:TypeId}
theorem XG(W:World)(g:Nat)(c:Array Value){j:Nat}(h:j≠g):(W.setRow g c).heap[j]?=W.heap[j]?:=by
 unfold World.setRow;simp[Array.getElem?_modify,show ¬g=j from fun e=>h e.symm]
theorem Zax{W:World}{g:Nat}(c:Array Value)(h:BlkB W g cs T):BlkB (W.setRow g c) g c T:=by
 unfold BlkB at*
 unfold World.setRow;simp[Array.getElem?_modify,h]
theorem ZdF(W:World){n g:Nat}(hg:n<=g)(c:Array Value):Below n W (W.setRow g c):=
 ⟨rfl,rfl,rfl,by simp[World.setRow],fun k hk=>XG W g c (by omega)⟩
theorem Kp.row(h:Kp w bs W)(i:Nat)(hb:bs[i]?=some (p,cs,T))(c:Array Value):Kp w (bs.set i (p,c,T)) (W.setRow p c):=by
 have hm:(bs.set i (p,c,T)).map (·.1)=bs.map (·.1):=by
  refine List.ext_getElem? fun k=> ?_
  rw[List.getElem?_map,List.getElem?_map,List.getElem?_set]
  split
  ·rename_i e
   subst e;rw[hb]
   split
   ·rfl
   ·rename_i e2;exact absurd (List.getElem?_eq_some_iff.1 hb).1 e2
  ·rfl
 refine⟨h.pow,h.bl.trans (ZdF W (h.old i hb) c),?_,by rw[hm];exact h.ord,?_⟩
 ·intro b hx
  rcases List.mem_or_eq_of_mem_set hx with hx|rfl
  ·exact h.own b hx
  ·exact h.old i hb
 ·intro b hx;obtain⟨k,hk⟩:=List.getElem?_of_mem hx
  rw[List.getElem?_set] at hk
  split at hk
  ·split at hk
   ·injection hk with hk;subst hk;exact Zax c (h.at_ i hb)
   ·cases hk
  ·rename_i hik
   obtain⟨q,ds,U⟩:=b
   exact(XG W p c (h.ne k i hk hb (fun e=>hik e.symm))).trans (h.at_ k hk)
end
end
section
def Bz(W X:World):Prop:=Below W.1.size W X
section
variable {W X Y:World}
theorem Bz.refl(W:World):Bz W W:=Below.refl _ _
theorem Bz.drew(h:Bz W X):Bz W X.drew:=Below.drew h
theorem Bz.size(h:Bz W X):W.1.size<=X.1.size:=Below.size h
theorem Bz.alloc(h:Bz W X)(o:Obj):Bz W (X.alloc o):=Below.alloc h (Below.size h) o
theorem Bz.call(h:Bz W X)(hb:Below X.1.size X Y):Bz W Y:=Below.trans h (hb.mono (Below.size h))
theorem Bz.set{p:Nat}(h:Bz W X)(hp:W.1.size<=p)(j:Nat)(u:Value):Bz W (X.setCell ⟨p,j,none⟩ u):=Below.setCell h hp u
variable {w:World} {bs:List (Nat×Array Value×TypeId)} {p:Nat} {cs:Array Value} {T:TypeId}
theorem Kp.join(h:Kp w bs W)(hz:Bz W X)(hq:BlkB X p cs T)(hp:W.1.size<=p):Kp w ((p,cs,T)::bs) X:=by
 have h':=h.here hz;refine⟨h'.pow,h'.bl,?_,?_,?_⟩
 ·intro b hb
  rcases List.mem_cons.1 hb with rfl|hb
  ·exact Nat.le_trans h.bl.size hp
  ·exact h.own b hb
 ·refine .cons (fun b hb=> ?_) h.ord;obtain⟨x,hx,rfl⟩:=List.mem_map.1 hb
  have:=(h.blk x hx).lt
  exact fun e=>by simp only at e;omega
 ·intro b hb
  rcases List.mem_cons.1 hb with rfl|hb
  ·exact hq
  ·exact h'.blk b hb
theorem Kp.set2{a b:Value}(h:Kp w ((p,#[a,b],T)::bs) X)(c d:Value):Kp w ((p,#[c,d],T)::bs) ((X.setCell ⟨p,0,none⟩ c).setCell ⟨p,1,none⟩ d):=by
 have h2:=(h.set 0 0 rfl c).set 0 1 rfl d;exact h2
theorem Kp.tail{b:Nat×Array Value×TypeId}(h:Kp w (b::bs) X):Kp w bs X:=
 ⟨h.pow,h.bl,fun x hx=>h.own x (List.mem_cons_of_mem _ hx),(List.pairwise_cons.1 h.ord).2,fun x hx=>h.blk x (List.mem_cons_of_mem _ hx)⟩
end
end
section
def S1(s:List UInt8):List Value:=[S s]
theorem Vu(s:List UInt8):(S1 s).length=1:=rfl
theorem Za8(s:List UInt8):∀u∈S1 s,u.oneCell'=true:=by intro u hu;simp[S1] at hu;subst hu;rfl
abbrev Yu(w:World)(B:Nat)(A:Option Addr)(n:Nat)(xs:List (List UInt8)):Prop:=Sl S1 1 w B A n xs
theorem Sl.st{w:World}{B:Nat}{A:Option Addr}{n:Nat}{xs:List (List UInt8)}{i:Nat}(h:Yu w B A n xs)(hi:i<n):
 ∃b off x,A=some ⟨b,off,none⟩/\b<B/\xs[i]?=some x/\w.cell? ⟨b,off+i,none⟩=some (.string ⟨x.toArray⟩):=by
 obtain⟨b,off,x,hA,hb,hx,hc⟩:=h.at_ hi
 have:=hc 0 _ rfl
 rw[Nat.mul_one,Nat.add_zero] at this;exact⟨b,off,x,hA,hb,hx,this⟩
end
section
theorem ZfR(g:Nat)(cb:Array Value)(p:(List UInt8)->Bool)(A:Option Addr)(n c:Nat)(xs:List (List UInt8))(w:World)(eg:∀args w,(callFunc g args).run Tryz.prog w=.ok (.enter g args) w)
 (hp:∀(W:World) (x:(List UInt8)),x∈xs->Below w.1.size w W->Calls Tryz.prog g (#[S x]++cb) W fun e w'=>e=.returned (.bool (p x))/\Below W.1.size W w') (hr:Sl S1 1 w w.1.size A n xs) (hn:n<=1000000000):
 Calls Tryz.prog 166 #[.slice A n c,.func (.func g) #[] cb] w fun e w'=>e=.returned (.int .i64 (Zb6 p xs))/\Below w.1.size w w':=by
 have HPR:=jq hp;have HR:=jq hr;clear hp hr;go_enter Tryz.func166,Tryz.ntmps166
 go_wp2
 go_loopw [5,8] (fun _ i wr=>∃j:Nat,j<=n/\i=.int .i64 j/\Hid ((xs.take j).any p=false)/\Below w.1.size w wr) (fun _ i _=>n-(intOf i).toNat)
 case atStart=>exact⟨0,Nat.zero_le _,rfl,by show _=_;simp,Below.refl _ _⟩
 case round=>
  obtain⟨j,hj,rfl,HN,hb⟩:=hrel
  by_cases hlt:j<n
  ·obtain⟨b,off,r,rfl,hbl,hxj,hd⟩:=(HR.out.below hb).at_ hlt
   have d0:wr.cell? ⟨b,off+j,none⟩=some (.string ⟨r.toArray⟩):=by have:=hd 0 _ rfl;rwa [Nat.mul_one,Nat.add_zero] at this
   have HX:=jq hxj;have hcall:=HPR.out wr r (List.mem_of_getElem? hxj) hb;unfold S at hcall;clear hxj hd;have HC:=jq hcall;clear hcall
   cases hq:p r with
   |true=>
    rw[hq] at HC;have HQ:=jq hq;clear hq;go_wp2_with (go_at_fn g;refine(HC.out).mono ?_;rintro e w' ⟨rfl,hb'⟩)
    go_ret
    exact⟨Qb (Zco HX.out HQ.out HN.out).symm,hb.trans (hb'.mono hb.size)⟩
   |false=>
    rw[hq] at HC;have HQ:=jq hq;clear hq;go_wp2_with (go_at_fn g;refine(HC.out).mono ?_;rintro e w' ⟨rfl,hb'⟩)
    go_roundw
    case rel=>exact⟨j+1,by omega,by go_num,VR HX.out HN.out HQ.out,hb.trans (hb'.mono hb.size)⟩
    case measure=>simp[intOf];omega
  ·go_wp2
   go_ret
   exact⟨Qb (Zah (by have:=HN.out;rwa [List.take_of_length_le (by have:=HR.out.1;omega)] at this)).symm,hb⟩
theorem ZcH(g:Nat)(cb:Array Value)(p:(List UInt8)->Bool)(A:Option Addr)(n c:Nat)(xs:List (List UInt8))(w:World)(eg:∀args w,(callFunc g args).run Tryz.prog w=.ok (.enter g args) w)
 (hp:∀(W:World) (x:(List UInt8)),x∈xs->Below w.1.size w W->Calls Tryz.prog g (#[S x]++cb) W fun e w'=>e=.returned (.bool (p x))/\Below W.1.size W w') (hr:Sl S1 1 w w.1.size A n xs) (hn:n<=1000000000):
 Calls Tryz.prog 116 #[.slice A n c,.func (.func g) #[] cb] w fun e w'=>e=.returned (.bool (xs.any p))/\Below w.1.size w w':=by
 have H:=jq (ZfR g cb p A n c xs w eg hp hr hn);clear hp eg hr;have e:=JD p xs;generalize Zb6 p xs=z at*;have E:=jq e;clear e;go_enter Tryz.func116,Tryz.ntmps116
 go_wp2_with (go_at_call 166;refine(H.out).mono ?_;rintro e w' ⟨rfl,hb'⟩)
 go_ret
 exact⟨Qe E.out,hb'⟩
end
section
def SeenB(w:World)(b n:Nat)(l:List (List UInt8)):Prop:=
 ∃D:DataW Unit,w.ownsMap Tryz.prog 9 (plainElem Tryz.prog 4) b n D/\Maps.IsMap D/\∀s,D.atKey (.string s) (.lit (.bool false))=.lit (.bool (decide (s∈l)))
theorem Zjp(w:World):SeenB (w.alloc (.map #[] 0)) w.1.size 0 []:=
 ⟨.map [],World.ownsMap_made _ _ _ _,⟨[],rfl⟩,fun s=>by simp[DataW.atKey]⟩
section
variable {w W W':World} {p:Nat} {bs:List (Nat×Array Value×TypeId)}
theorem Kp.bare(h:Kp w bs W):Kp w [] W:=⟨h.pow,h.bl,fun _ h=>by simp at h,.nil,fun _ h=>by simp at h⟩
theorem Kp.turn(h:Kp w [] W)(hg:W.grownBy W' (some p))(hp:w.1.size<=p):Kp w [] W':=
 ⟨h.pow,h.bl.trans ⟨hg.os,hg.tape,hg.output,hg.size,fun k hk=>hg.block k (by have:=h.bl.size;omega) (fun e=>by injection e with e;omega)⟩,fun _ h=>by simp at h,.nil,fun _ h=>by simp at h⟩
end
section
variable {w w':World} {b n:Nat} {l:List (List UInt8)} {t:TypeId}
theorem SeenB.lt(h:SeenB w b n l):b<w.1.size:=h.elim fun _ h=>h.1.lt
theorem SeenB.here(h:SeenB w b n l)(hb:Below w.1.size w w'):SeenB w' b n l:=by
 obtain⟨D,⟨es,clock,h1,h2⟩,h3⟩:=h
 exact⟨D,⟨es,clock,(hb.block b (Array.getElem?_eq_some_iff.1 h1).1).trans h1,h2⟩,h3⟩
theorem SeenB.alloc(h:SeenB w b n l)(o:Obj):SeenB (w.alloc o) b n l:=h.here ((Below.refl _ _).alloc (Nat.le_refl _) o)
theorem SeenB.drew(h:SeenB w b n l):SeenB w.drew b n l:=h
theorem SeenB.far(h:SeenB w b n l){a:Addr}(hb:b≠a.block)(u:Value):SeenB (w.setCell a u) b n l:=by
 obtain⟨D,⟨es,clock,h1,h2⟩,h3⟩:=h
 exact⟨D,⟨es,clock,(Below.heap_setCell w a u b hb).trans h1,h2⟩,h3⟩
theorem SeenB.look(h:SeenB w b n l)(ht:Tryz.prog.underlying t=some (.map 9 4)){s:List UInt8}(hs:s.length<=maxLen):(Instr.lookup t (.map (some b)) (.string ⟨s.toArray⟩) false).run Tryz.prog w=.ok (.bool (decide (s∈l))) w:=by
 obtain⟨D,h1,h2,h3⟩:=h
 obtain⟨v,ps,hr,hv⟩:=h1.lookup (Maps.string_keyed Tryz.underlying9) ht (z:=.bool false) (by kernel_rfl) (plainElem_bool Tryz.underlying4 false) (key:=.string ⟨s.toArray⟩) (kl:=.string s) (by
  rw[Go.WideMaps.keyOf_string_mk Tryz.underlying9 (show(ByteArray.mk s.toArray).size<=maxLen from hs)])
 rw[h3 s] at hv;unfold plainElem at hv;rw[show Tryz.prog.underlying 4=some .bool from Tryz.underlying4] at hv
 cases v<;>simp at hv
 rw[hr,hv.1]
theorem SeenB.put(h:SeenB w b n l)(ht:Tryz.prog.underlying t=some (.map 9 4))(hn:n<maxLen){s:List UInt8}(hs:s.length<=maxLen):
 ∃w',(Instr.mapUpdate t (.map (some b)) (.string ⟨s.toArray⟩) (.bool true)).run Tryz.prog w=.ok () w'/\SeenB w' b (n+1) (s::l)/\w.grownBy w' (some b):=by
 obtain⟨D,h1,h2,h3⟩:=h
 obtain⟨w',hr,ho,hg⟩:=h1.update (Maps.string_keyed Tryz.underlying9) ht hn (key:=.string ⟨s.toArray⟩) (kl:=.string s) (by
  rw[Go.WideMaps.keyOf_string_mk Tryz.underlying9 (show(ByteArray.mk s.toArray).size<=maxLen from hs)]) (plainElem_bool Tryz.underlying4 true)
 refine⟨w',hr,⟨_,ho,h2.put _ _,fun s'=> ?_⟩,hg⟩
 by_cases e:s'=s
 ·subst e;rw[Maps.atKey_put_same h2 (by simp[WideAt.IsKeyLit])];simp
 ·rw[Maps.atKey_put_other (by intro h;injection h with h;exact e h),h3 s'];simp[e]
end
end
section
def Zlw(v:Value):Option (DataW Value×List MemPlace):=some (.held v,[])
def Zpl(D:DataW Value)(m:Int->Option Value):Prop:=Maps.IsMap D/\∀k:Int,Maps.has D (.int .i64 k)=(m k).isSome/\∀z,D.atKey (.int .i64 k) z=(match m k with|some v=>.held v|none=>z)
def ImB(w:World)(b n:Nat)(m:Int->Option Value):Prop:=∃D,w.ownsMap Tryz.prog 3 Zlw b n D/\Zpl D m
theorem Zin(w:World):ImB (w.alloc (.map #[] 0)) w.1.size 0 (fun _=>none):=
 ⟨.map [],World.ownsMap_made _ _ _ _,⟨[],rfl⟩,fun _k=>⟨rfl,fun _z=>rfl⟩⟩
theorem wfI{k:Int}(h1: -9223372036854775808<=k)(h2:k<=9223372036854775807):(Lit.int .i64 k).wf=true:=by
 have e1:IntKind.i64.min= -9223372036854775808:=rfl;have e2:IntKind.i64.max=9223372036854775807:=rfl;simp[Lit.wf]
 omega
section
variable {w w':World} {b n:Nat} {m:Int->Option Value} {t e:TypeId} {k:Int}
theorem ImB.lt(h:ImB w b n m):b<w.1.size:=h.elim fun _ h=>h.1.lt
theorem ImB.here(h:ImB w b n m)(hb:Below w.1.size w w'):ImB w' b n m:=by
 obtain⟨D,⟨es,clock,h1,h2⟩,h3⟩:=h
 exact⟨D,⟨es,clock,(hb.block b (Array.getElem?_eq_some_iff.1 h1).1).trans h1,h2⟩,h3⟩
theorem ImB.grown{row:Option Nat}(h:ImB w b n m)(hg:w.grownBy w' row)(hne:some b≠row):ImB w' b n m:=by
 obtain⟨D,h1,h3⟩:=h
 exact⟨D,h1.kept hg hne,h3⟩
theorem ImB.alloc(h:ImB w b n m)(o:Obj):ImB (w.alloc o) b n m:=h.here ((Below.refl _ _).alloc (Nat.le_refl _) o)
theorem ImB.drew(h:ImB w b n m):ImB w.drew b n m:=h
theorem ImB.far(h:ImB w b n m){a:Addr}(hb:b≠a.block)(u:Value):ImB (w.setCell a u) b n m:=by
 obtain⟨D,⟨es,clock,h1,h2⟩,h3⟩:=h
 exact⟨D,⟨es,clock,(Below.heap_setCell w a u b hb).trans h1,h2⟩,h3⟩
theorem ImB.look(h:ImB w b n m)(ht:Tryz.prog.underlying t=some (.map 3 e)){z:Value}(hz:(zeroValue e).run Tryz.prog w=.ok z w)(h1: -9223372036854775808<=k)(h2:k<=9223372036854775807):
 (Instr.lookup t (.map (some b)) (.int .i64 k) false).run Tryz.prog w=.ok ((m k).getD z) w:=by
 obtain⟨D,ho,hm,hd⟩:=h
 obtain⟨v,ps,hr,hv⟩:=ho.lookup (Maps.int_keyed Tryz.underlying3) ht hz (zd:=.held z) (zp:=[]) rfl (key:=.int .i64 k) (kl:=.int .i64 k) (Maps.keyOf_int_mk Tryz.underlying3 (wfI h1 h2))
 rw[hr];rw[(hd k).2] at hv;unfold Zlw at hv
 cases hk:m k<;>rw[hk] at hv<;>simp at hv<;>rw[hv.1]<;>rfl
theorem ImB.lookOk(h:ImB w b n m)(ht:Tryz.prog.underlying t=some (.map 3 e)){z:Value}(hz:(zeroValue e).run Tryz.prog w=.ok z w)(h1: -9223372036854775808<=k)(h2:k<=9223372036854775807):
 (Instr.lookup t (.map (some b)) (.int .i64 k) true).run Tryz.prog w=.ok (.tuple #[(m k).getD z,.bool (m k).isSome]) w:=by
 obtain⟨D,ho,hm,hd⟩:=h
 obtain⟨v,ps,hr,hv⟩:=ho.look_ok (Maps.int_keyed Tryz.underlying3) ht hz (zd:=.held z) (zp:=[]) rfl (key:=.int .i64 k) (kl:=.int .i64 k) (Maps.keyOf_int_mk Tryz.underlying3 (wfI h1 h2))
 rw[hr,(hd k).1];rw[(hd k).2] at hv;unfold Zlw at hv
 cases hk:m k<;>rw[hk] at hv<;>simp at hv<;>rw[hv.1]<;>rfl
theorem ImB.put(h:ImB w b n m)(ht:Tryz.prog.underlying t=some (.map 3 e))(hn:n<maxLen)(h1: -9223372036854775808<=k)(h2:k<=9223372036854775807)(v:Value):
 ∃w',(Instr.mapUpdate t (.map (some b)) (.int .i64 k) v).run Tryz.prog w=.ok () w'/\ImB w' b (n+1) (fun j=>if j=k then some v else m j)/\w.grownBy w' (some b):=by
 obtain⟨D,ho,hm,hd⟩:=h
 obtain⟨w',hr,ho',hg⟩:=ho.update (Maps.int_keyed Tryz.underlying3) ht hn (key:=.int .i64 k) (kl:=.int .i64 k) (Maps.keyOf_int_mk Tryz.underlying3 (wfI h1 h2)) (val:=v) (d:=.held v) (ps:=[]) rfl
 refine⟨w',hr,⟨_,ho',hm.put _ _,fun j=> ?_⟩,hg⟩
 by_cases ej:j=k
 ·subst ej;refine⟨by rw[Maps.has_put_same hm (by simp[WideAt.IsKeyLit])];simp,fun z=> ?_⟩;rw[Maps.atKey_put_same hm (by simp[WideAt.IsKeyLit])];simp
 ·have hne:(Lit.int .i64 j)≠ .int .i64 k:=fun h=>ej (by injection h)
  refine⟨by rw[Maps.has_put_other hne];simp[ej,(hd j).1],fun z=> ?_⟩;rw[Maps.atKey_put_other hne,(hd j).2];simp[ej]
end
end
section
section
variable {P:Program} {ops:Array Oper} {Q:Exit->Act->World->Prop} {md:Region.Mode}
theorem Zar{l:Array Bool}{i:Nat}(h:i∈Region.ready md ops l):∃o,ops[i]?=some o/\l.getD i true=false/\∀e∈o.after,Region.binds md e=true->l.getD e.on false=true:=by
 unfold Region.ready at h;rw[List.mem_filter,Bool.and_eq_true] at h;obtain⟨h1,h2,h3⟩:=h
 have hi:=List.mem_range.1 h1;rw[Array.getElem?_eq_getElem hi] at h3;simp only[Option.map_some,Option.getD_some,Array.all_eq_true_iff_forall_mem] at h3;refine⟨ops[i],Array.getElem?_eq_getElem hi,by simpa using h2,fun e he hb=> ?_⟩;have:=h3 e he
 rw[hb] at this;simpa using this
theorem Zjw{l:Array Bool}(hb:∀(i:Nat) (o:Oper),ops[i]?=some o->∀e∈o.after,e.on<i)(hs:l.size=ops.size)(h:Region.ready md ops l=[]):∀i,i<ops.size->l.getD i false=true:=by
 intro i
 induction i using Nat.strongRecOn with
 |ind i ih=>
  intro hi
  cases hl:l.getD i false with
  |true=>rfl
  |false=>
   exfalso
   have hil:i<l.size:=by omega
   have hm:i∈Region.ready md ops l:=by
    unfold Region.ready;rw[List.mem_filter,Bool.and_eq_true,Array.getElem?_eq_getElem hi];refine⟨List.mem_range.2 hi,?_,?_⟩
    ·rw[Array.getD_eq_getD_getElem?,Array.getElem?_eq_getElem hil] at hl ⊢;simpa using hl
    ·simp only[Option.map_some,Option.getD_some,Array.all_eq_true_iff_forall_mem];intro e he;have h1:=hb i _ (Array.getElem?_eq_getElem hi) e he;rw[ih e.on h1 (by omega),Bool.or_true]
   rw[h] at hm
   cases hm
theorem ZbM:∀(l:List Bool) (i:Nat),l[i]?=some false->(l.set i true).countP (fun b=> !b)+1=l.countP (fun b=> !b)
 |[],_,h=>by simp at h
 |b::l,0,h=>by
  simp only[List.getElem?_cons_zero,Option.some.injEq] at h;subst h;simp
 |b::l,i+1,h=>by
  rw[List.getElem?_cons_succ] at h;have:=ZbM l i h
  rw[List.set_cons_succ,List.countP_cons,List.countP_cons];omega
theorem Zjx(I:Array Bool->Act->World->Prop)(hb:∀(i:Nat) (o:Oper),ops[i]?=some o->∀e∈o.after,e.on<i)(hg:∀(i:Nat) (o:Oper),ops[i]?=some o->o.guard=none)(hs:∀l a w,I l a w->l.size=ops.size)
 (hstep:∀l a w,I l a w->∀(i:Nat) (o:Oper),ops[i]?=some o->l.getD i true=false->(∀e∈o.after,Region.binds md e=true->l.getD e.on false=true)->o.wp P a w (fun a' w'=>I (l.setIfInBounds i true) a' w') Q)
 (hend:∀l a w,I l a w->(∀i,i<ops.size->l.getD i false=true)->Q .normal a w):
 ∀(fuel:Nat) (l:Array Bool) (a:Act) (w:World),I l a w->l.toList.countP (fun b=> !b)<=fuel->wpAny P md ops Q fuel l a w:=by
 intro fuel
 induction fuel with
 |zero=>
  intro l a w hI hc
  have hall:∀i,i<ops.size->l.getD i false=true:=by
   intro i hi;have hsz:=hs l a w hI;have h0:l.toList.countP (fun b=> !b)=0:=by omega
   rw[List.countP_eq_zero] at h0;have:=h0 (l[i]'(by omega)) (by simp)
   rw[Array.getD_eq_getD_getElem?,Array.getElem?_eq_getElem (by omega)];simpa using this
  refine⟨?_,hend l a w hI hall⟩
  cases hr:Region.ready md ops l with
  |nil=>rfl
  |cons i t=>
   exfalso
   obtain⟨o,ho,hl,_⟩:=Zar (md:=md) (ops:=ops) (l:=l) (i:=i) (by rw[hr];exact List.mem_cons_self)
   have hi:=(Array.getElem?_eq_some_iff.1 ho).1;have h1:=hall i hi;have hsz:=hs l a w hI;rw[Array.getD_eq_getD_getElem?,Array.getElem?_eq_getElem (by omega)] at hl h1;simp at hl h1;rw[hl] at h1
   cases h1
 |succ fuel ih=>
  intro l a w hI hc;refine⟨fun hr=>hend l a w hI (Zjw hb (hs l a w hI) hr),fun i hi=> ?_⟩;obtain⟨o,ho,hl,hd⟩:=Zar hi
  have hw:=hstep l a w hI i o ho hl hd;refine wpOp_mono (K:=fun a' w'=>I (l.setIfInBounds i true) a' w') (fun a' w' h'=>ih _ _ _ h' ?_) ?_
  ·have hsz:=hs l a w hI;have hil:i<l.size:=by have:=(Array.getElem?_eq_some_iff.1 ho).1;omega
   rw[Array.getD_eq_getD_getElem?,Array.getElem?_eq_getElem hil] at hl;have:=ZbM l.toList i (by rw[List.getElem?_eq_getElem (by simpa using hil)];simpa using hl)
   rw[Array.toList_setIfInBounds];omega
  ·unfold wpOp;rw[ho];simp only;rw[if_pos (by simp[Region.wanted,hg i o ho])];exact .inl hw
theorem Zdw{id:Nat}{a:Act}{w:World}(hm:P.follows .mixedOrders=true)(I:Array Bool->Act->World->Prop)(hb:∀(i:Nat) (o:Oper),ops[i]?=some o->∀e∈o.after,e.on<i)(hg:∀(i:Nat) (o:Oper),ops[i]?=some o->o.guard=none)
 (hs:∀l a w,I l a w->l.size=ops.size)
 (hstep:∀l a w,I l a w->∀(i:Nat) (o:Oper),ops[i]?=some o->l.getD i true=false->(∀e∈o.after,Region.binds .any e=true->l.getD e.on false=true)->o.wp P a w (fun a' w'=>I (l.setIfInBounds i true) a' w') Q)
 (hend:∀l a w,I l a w->(∀i,i<ops.size->l.getD i false=true)->Q .normal a w) (h0:I (Array.replicate ops.size false) a w.drew):(Code.region id ops true).wp P Q a w:=by
 refine wp_region_any hm ?_;refine Zjx (md:=.any) I hb hg hs hstep hend _ _ _ _ h0 ?_;have:=List.countP_le_length (p:=fun b:Bool=> !b) (l:=(Array.replicate ops.size false).toList)
 simpa using this
end
end
section
section
variable {P:Program} {ops:Array Oper} {Q:Exit->Act->World->Prop} {md:Region.Mode}
theorem Zhy{l:Array Bool}(hb:∀(i:Nat) (o:Oper),ops[i]?=some o->∀e∈o.after,Region.binds md e=true->e.on<i)(hs:l.size=ops.size)(h:Region.ready md ops l=[]):∀i,i<ops.size->l.getD i false=true:=by
 intro i
 induction i using Nat.strongRecOn with
 |ind i ih=>
  intro hi
  cases hl:l.getD i false with
  |true=>rfl
  |false=>
   exfalso
   have hil:i<l.size:=by omega
   have hm:i∈Region.ready md ops l:=by
    unfold Region.ready;rw[List.mem_filter,Bool.and_eq_true,Array.getElem?_eq_getElem hi];refine⟨List.mem_range.2 hi,?_,?_⟩
    ·rw[Array.getD_eq_getD_getElem?,Array.getElem?_eq_getElem hil] at hl ⊢;simpa using hl
    ·simp only[Option.map_some,Option.getD_some,Array.all_eq_true_iff_forall_mem];intro e he
     cases hbd:Region.binds md e with
     |false=>rfl
     |true=>
      have h1:=hb i _ (Array.getElem?_eq_getElem hi) e he hbd;rw[ih e.on h1 (by omega),Bool.or_true]
   rw[h] at hm
   cases hm
theorem Zhz(I:Array Bool->Act->World->Prop)(hb:∀(i:Nat) (o:Oper),ops[i]?=some o->∀e∈o.after,Region.binds md e=true->e.on<i)(hg:∀(i:Nat) (o:Oper),ops[i]?=some o->o.guard=none)(hs:∀l a w,I l a w->l.size=ops.size)
 (hstep:∀l a w,I l a w->∀(i:Nat) (o:Oper),ops[i]?=some o->l.getD i true=false->(∀e∈o.after,Region.binds md e=true->l.getD e.on false=true)->o.wp P a w (fun a' w'=>I (l.setIfInBounds i true) a' w') Q)
 (hend:∀l a w,I l a w->(∀i,i<ops.size->l.getD i false=true)->Q .normal a w):
 ∀(fuel:Nat) (l:Array Bool) (a:Act) (w:World),I l a w->l.toList.countP (fun b=> !b)<=fuel->wpAny P md ops Q fuel l a w:=by
 intro fuel
 induction fuel with
 |zero=>
  intro l a w hI hc
  have hall:∀i,i<ops.size->l.getD i false=true:=by
   intro i hi;have hsz:=hs l a w hI;have h0:l.toList.countP (fun b=> !b)=0:=by omega
   rw[List.countP_eq_zero] at h0;have:=h0 (l[i]'(by omega)) (by simp)
   rw[Array.getD_eq_getD_getElem?,Array.getElem?_eq_getElem (by omega)];simpa using this
  refine⟨?_,hend l a w hI hall⟩
  cases hr:Region.ready md ops l with
  |nil=>rfl
  |cons i t=>
   exfalso
   obtain⟨o,ho,hl,_⟩:=Zar (md:=md) (ops:=ops) (l:=l) (i:=i) (by rw[hr];exact List.mem_cons_self)
   have hi:=(Array.getElem?_eq_some_iff.1 ho).1;have h1:=hall i hi;have hsz:=hs l a w hI;rw[Array.getD_eq_getD_getElem?,Array.getElem?_eq_getElem (by omega)] at hl h1;simp at hl h1;rw[hl] at h1
   cases h1
 |succ fuel ih=>
  intro l a w hI hc;refine⟨fun hr=>hend l a w hI (Zhy hb (hs l a w hI) hr),fun i hi=> ?_⟩;obtain⟨o,ho,hl,hd⟩:=Zar hi
  have hw:=hstep l a w hI i o ho hl hd;refine wpOp_mono (K:=fun a' w'=>I (l.setIfInBounds i true) a' w') (fun a' w' h'=>ih _ _ _ h' ?_) ?_
  ·have hsz:=hs l a w hI;have hil:i<l.size:=by have:=(Array.getElem?_eq_some_iff.1 ho).1;omega
   rw[Array.getD_eq_getD_getElem?,Array.getElem?_eq_getElem hil] at hl;have:=ZbM l.toList i (by rw[List.getElem?_eq_getElem (by simpa using hil)];simpa using hl)
   rw[Array.toList_setIfInBounds];omega
  ·unfold wpOp;rw[ho];simp only;rw[if_pos (by simp[Region.wanted,hg i o ho])];exact .inl hw
theorem Zdb{id:Nat}{a:Act}{w:World}(hm:P.follows .mixedOrders=true)(I:Array Bool->Act->World->Prop)(hb:∀(i:Nat) (o:Oper),ops[i]?=some o->∀e∈o.after,Region.binds .any e=true->e.on<i)(hg:∀(i:Nat) (o:Oper),ops[i]?=some o->o.guard=none)
 (hs:∀l a w,I l a w->l.size=ops.size)
 (hstep:∀l a w,I l a w->∀(i:Nat) (o:Oper),ops[i]?=some o->l.getD i true=false->(∀e∈o.after,Region.binds .any e=true->l.getD e.on false=true)->o.wp P a w (fun a' w'=>I (l.setIfInBounds i true) a' w') Q)
 (hend:∀l a w,I l a w->(∀i,i<ops.size->l.getD i false=true)->Q .normal a w) (h0:I (Array.replicate ops.size false) a w.drew):(Code.region id ops true).wp P Q a w:=by
 refine wp_region_any hm ?_;refine Zhz (md:=.any) I hb hg hs hstep hend _ _ _ _ h0 ?_;have:=List.countP_le_length (p:=fun b:Bool=> !b) (l:=(Array.replicate ops.size false).toList)
 simpa using this
end
end
section
end
section
section
variable {P:Program} {ops:Array Oper} {Q:Exit->Act->World->Prop} {md:Region.Mode} {l n:Nat}
theorem ZjH{row:String}{args:Array Value}{w:World}{R:Value->World->Prop}(h:Rows P row args w R):RowsIn (Fence.wide.inRound l) n P row args w R:=
 fun c cs _=>let⟨v,w',r,s⟩:=h c cs;⟨v,w',r,stepsIn_wide.2 s⟩
theorem ZjI{o:Oper}{a:Act}{w:World}{K:Act->World->Prop}(hd:∀c,o.op≠ .defer c)(h:o.wp P a w K Q):o.wpIn (Fence.wide.inRound l) n P a w K Q:=by
 unfold Oper.wp at h;unfold Oper.wpIn;refine⟨fun _ _=>trivial,?_⟩;rw[Oper.semAt_plain _ _ _ hd];generalize (execOp a.eval o).run P w=r at*
 cases r with
 |ok x w'=>
  cases x<;>simp only[Oper.upon,Oper.uponIn] at h ⊢
  case value v=>exact h
  case skip=>exact h
  case defer d=>exact h
  case enter f args=>exact⟨fun e=>(by cases e),CallsIn.inRound l ((callsIn_wide.2 h).mono fun e w'' he=>by cases e<;>exact he)⟩
  case row row args=>exact⟨fun e=>(by cases e),ZjH h⟩
 |halt x w'=>cases x<;>simp only[Oper.upon,Oper.uponIn] at h ⊢ <;>exact h
theorem Znt{i:Nat}{a:Act}{w:World}{K:Act->World->Prop}(hd:∀o∈ops,∀c,o.op≠ .defer c)(hQ:¬LetsOut Q)(h:wpOp P ops Q i K a w):wpOpIn (Fence.wide.inRound l) n P ops Q i K a w:=by
 unfold wpOp at h;unfold wpOpIn
 cases ho:ops[i]? with
 |none=>rw[ho] at h;exact h
 |some o=>
  rw[ho] at h;simp only at h ⊢
  by_cases hw:Region.wanted o (yielded ops a.tmps)=true
  ·rw[if_pos hw] at h ⊢
   rcases h with h|⟨_,h⟩
   ·exact ZjI (hd o (Array.mem_of_getElem? ho)) h
   ·exact absurd h hQ
  ·rw[if_neg hw] at h ⊢;exact⟨fun _ _=>trivial,h⟩
theorem Zgq(hd:∀o∈ops,∀c,o.op≠ .defer c)(hQ:¬LetsOut Q):∀(fuel:Nat) (listed:Array Bool) (a:Act) (w:World),wpAny P md ops Q fuel listed a w->wpAnyIn (Fence.wide.inRound l) n P md ops Q fuel listed a w
 |0,_,_,_,h=>h
 |fuel+1,_,_,_,h=>⟨h.1,fun i hi=>wpOpIn_mono (fun a' w' h'=>Zgq hd hQ fuel _ a' w' h') (Znt hd hQ (h.2 i hi))⟩
def Ze3(ops:Array Oper):Bool:=ops.all fun o=>match o.op with| .defer _=>false|_=>true
theorem ZhC{ops:Array Oper}(h:Ze3 ops=true):∀o∈ops,∀c,o.op≠ .defer c:=by
 intro o ho c e;unfold Ze3 at h;have:=Array.all_eq_true_iff_forall_mem.1 h o ho
 rw[e] at this
 cases this
theorem Ze4{S:World->Prop}{id:Nat}{a:Act}{w:World}(hm:P.follows .mixedOrders=true)(hd:Ze3 ops=true)(hQ:¬LetsOut Q)
 (h:wpAnyH P .any ops Q S ops.size (Array.replicate ops.size false) a w.drew):(Code.region id ops true).wpIn (Fence.wide.inRound l) n P Q a w:=
 wpIn_region_any hm (Zgq (ZhC hd) hQ _ _ _ _ (wpAny_of_held _ _ _ _ h))
end
end
section
theorem Zbm:Jz Tryz.prog 36 24 1 16:=VQ Tryz.underlying36 (by kernel_rfl) (by decide) (by decide)
theorem Ziu{W:World}{q:Nat}{s:List UInt8}{T:TypeId}(h:BlkB W q #[.string ⟨s.toArray⟩] T):Yu W W.1.size (some ⟨q,0,none⟩) 1 [s]:=by
 refine⟨rfl,fun _=>⟨q,0,rfl,h.lt,fun j z hj k u hk=> ?_⟩⟩
 cases j with
 |zero=>
  simp only[List.getElem?_cons_zero,Option.some.injEq] at hj;subst hj;rw[Nat.zero_mul,Nat.zero_add];exact h.cell k (by simpa[S1,S] using hk)
 |succ j=>simp at hj
theorem ZbP{α:Type}{enc:α->List Value}{k base n c:Nat}{e:TypeId}{W:World}{A:Option Addr}{xs:List α}{g:Nat}(h:Own enc k e W base (.slice A n c) xs)(hg:(Value.slice A n c).ownBlock=some g):base<=g/\g<W.1.size:=by
 obtain⟨A',c',hv,_,_,_,h5⟩:=h.form
 exact(h5 g hg).2
structure TwoO (base:Nat) (W1 X:World) (A1:Option Addr) (n1 c1:Nat) (xs:List (List UInt8)) (A2:Option Addr) (n2 c2:Nat) (ys:List (List UInt8)):Prop where
 o1:Own S1 1 24 X base (.slice A1 n1 c1) xs
 o2:Own S1 1 24 X base (.slice A2 n2 c2) ys
 ap:∀g,(Value.slice A1 n1 c1).ownBlock=some g->(Value.slice A2 n2 c2).ownBlock≠some g
 bl:Below base W1 X
 hb:base<=X.1.size
section
variable {base:Nat} {W1 X Y:World} {A1 A2 A3:Option Addr} {n1 c1 n2 c2 n3 c3:Nat} {xs ys zs:List (List UInt8)}
theorem TwoO.nil(hb:base<=X.1.size)(hl:Below base W1 X):TwoO base W1 X none 0 0 [] none 0 0 []:=⟨Own.nil,Own.nil,fun g h=>by simp[Value.ownBlock] at h,hl,hb⟩
theorem TwoO.alloc(h:TwoO base W1 X A1 n1 c1 xs A2 n2 c2 ys)(o:Obj):TwoO base W1 (X.alloc o) A1 n1 c1 xs A2 n2 c2 ys:=⟨h.o1.alloc o,h.o2.alloc o,h.ap,h.bl.alloc h.hb o,by have:=h.hb;simp;omega⟩
theorem TwoO.drew(h:TwoO base W1 X A1 n1 c1 xs A2 n2 c2 ys):TwoO base W1 X.drew A1 n1 c1 xs A2 n2 c2 ys:=⟨h.o1,h.o2,h.ap,h.bl.drew,h.hb⟩
theorem TwoO.below(h:TwoO base W1 X A1 n1 c1 xs A2 n2 c2 ys)(hb:Below X.1.size X Y):TwoO base W1 Y A1 n1 c1 xs A2 n2 c2 ys:=⟨h.o1.below hb,h.o2.below hb,h.ap,h.bl.trans (hb.mono h.hb),Nat.le_trans h.hb hb.size⟩
theorem TwoO.app1(h:TwoO base W1 X A1 n1 c1 xs A2 n2 c2 ys)(ho:Own S1 1 24 Y base (.slice A3 n3 c3) zs)(hg:X.grownBy Y (Value.slice A1 n1 c1).ownBlock)(hat:A3.map Addr.block=(Value.slice A1 n1 c1).ownBlock\/A3.map Addr.block=some X.1.size):TwoO base W1 Y A3 n3 c3 zs A2 n2 c2 ys:=by
 refine⟨ho,h.o2.grown hg ?_,?_,Qy h.bl hg h.hb (fun g e=>(ZbP h.o1 e).1),Nat.le_trans h.hb hg.size⟩
 ·cases e:(Value.slice A2 n2 c2).ownBlock with
  |none=>exact .inl rfl
  |some g=>exact .inr fun e'=>h.ap g e'.symm e
 ·intro g e e2
  have e3:A3.map Addr.block=some g:=by cases A3 with|none=>simp[Value.ownBlock] at e|some ad=>simpa[Value.ownBlock] using e
  rcases hat with hat|hat
  ·rw[e3] at hat;exact h.ap g hat.symm e2
  ·rw[e3] at hat;injection hat with hat;have:=(ZbP h.o2 e2).2;omega
theorem TwoO.app2(h:TwoO base W1 X A1 n1 c1 xs A2 n2 c2 ys)(ho:Own S1 1 24 Y base (.slice A3 n3 c3) zs)(hg:X.grownBy Y (Value.slice A2 n2 c2).ownBlock)(hat:A3.map Addr.block=(Value.slice A2 n2 c2).ownBlock\/A3.map Addr.block=some X.1.size):TwoO base W1 Y A1 n1 c1 xs A3 n3 c3 zs:=by
 refine⟨h.o1.grown hg ?_,ho,?_,Qy h.bl hg h.hb (fun g e=>(ZbP h.o2 e).1),Nat.le_trans h.hb hg.size⟩
 ·cases e:(Value.slice A1 n1 c1).ownBlock with
  |none=>exact .inl rfl
  |some g=>exact .inr fun e'=>h.ap g e e'.symm
 ·intro g e e2
  have e3:A3.map Addr.block=some g:=by cases A3 with|none=>simp[Value.ownBlock] at e2|some ad=>simpa[Value.ownBlock] using e2
  rcases hat with hat|hat
  ·rw[e3] at hat;exact h.ap g e hat.symm
  ·rw[e3] at hat;injection hat with hat;have:=(ZbP h.o1 e).2;omega
end
theorem TwoO.drew'{base:Nat}{W1 X:World}{A1 A2:Option Addr}{n1 c1 n2 c2:Nat}{xs ys:List (List UInt8)}(h:TwoO base W1 X A1 n1 c1 xs A2 n2 c2 ys):TwoO base W1 X.drew A1 n1 c1 xs A2 n2 c2 ys:=h.drew
theorem BlkB.drew'{W:World}{p:Nat}{cs:Array Value}{T:TypeId}(h:BlkB W p cs T):BlkB W.drew p cs T:=h
theorem BlkB.new'{W:World}{p:Nat}{cs:Array Value}{T:TypeId}(h:p=W.1.size):BlkB (W.alloc (.cells cs T)) p cs T:=by rw[h];exact heap_alloc_new W _
theorem BlkB.gr{X Y:World}{p:Nat}{cs:Array Value}{T:TypeId}{own:Option Nat}(hg:X.grownBy Y own)(hne:some p≠own)(h:BlkB X p cs T):BlkB Y p cs T:=(hg.block p h.lt hne).trans h
end
end Go.Proofs.YtkddgeclncafoaaGreatDoor
