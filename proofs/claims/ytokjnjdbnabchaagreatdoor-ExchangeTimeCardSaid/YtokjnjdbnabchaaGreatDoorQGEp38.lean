/- Kp, KpR, Ri, Bz, Sm2, Im, Sm, Sv, Vrg, Tl, CfS, Vqs, Ke. -/
import Derived.Test.YtokjnjdbnabchaaGreatDoorQGEp15
import Derived.Deep.WholeRow
import Derived.RangeFuncBound
import Derived.RangeFuncLeaves
import Derived.Shelf.Abstract
import Derived.Shelf.RegionOpen
import Derived.OwnWalkIn
import Derived.TacticsInMore
import Derived.LoopNIn
import Derived.LoopIn
import Derived.Maps.Views
import Derived.Maps.OwnSet
import Derived.Maps.RangeWalk
import Derived.StringKeys
import Derived.ArgAppend
import Derived.Deep.DeepCutAuto
import Derived.Deep.DrawnRows
import Derived.Deep.RegionHeld3
set_option maxRecDepth 100000
set_option maxHeartbeats 4000000
namespace Go.Proofs.YtokjnjdbnabchaaGreatDoor
open Go.Lib renaming hid→jq
section
open Go.RowKit Go.Shelf
def BlkB(w:World)(p:Nat)(cs:Array Value)(T:TypeId):Prop:=w.heap[p]?=some (.cells cs T (0,0))
section
variable {w w' W W':World} {p:Nat} {cs:Array Value} {T:TypeId}
theorem BlkB.lt(h:BlkB w p cs T):p<w.1.size:=(Array.getElem?_eq_some_iff.1 h).1
theorem BlkB.cell(h:BlkB w p cs T)(j:Nat){v:Value}(hj:cs[j]?=some v):w.cell? ⟨p,j,none⟩=some v:=(cell_of_row w p j cs T (0,0) h).trans hj
theorem BlkB.frozen(h:BlkB w p cs T)(j:Nat):w.frozen? ⟨p,j,none⟩=false:=by
 unfold BlkB at h;simp[World.frozen?,h]
theorem BlkB.here(h:BlkB w p cs T)(hb:Below w.1.size w w'):BlkB w' p cs T:=(hb.block p h.lt).trans h
theorem BlkB.alloc(h:BlkB w p cs T)(o:Obj):BlkB (w.alloc o) p cs T:=(Below.heap_alloc w o p h.lt).trans h
theorem BlkB.far(h:BlkB w p cs T){a:Addr}(hp:p≠a.block)(u:Value):BlkB (w.setCell a u) p cs T:=(Below.heap_setCell w a u p hp).trans h
theorem BlkB.set(h:BlkB w p cs T)(j:Nat)(u:Value):BlkB (w.setCell ⟨p,j,none⟩ u) p (cs.setIfInBounds j u) T:=heap_setCell_same w p j cs T u h
end
theorem Zb4{w w':World}{name:String}{v:Array Value}(h:w.var? Tryz.prog name=some v)(hb:Below w.1.size w w'):w'.var? Tryz.prog name=some v:=by
 unfold World.var? at*
 cases hg:Tryz.prog.globalNamed name with
 |none=>simp[hg] at h
 |some g=>
  simp only[hg,Option.bind_some] at h ⊢
  have hlt:g<w.1.size:=by
   rcases Nat.lt_or_ge g w.1.size with h'|h'
   ·exact h'
   ·rw[Array.getElem?_eq_none h'] at h;simp at h
  rw[hb.block g hlt];exact h
structure Env (w:World):Prop where
 pow:Pow w
 syn:∃tp p,w.var? Tryz.prog "strconv.ErrSyntax" =some #[.iface tp p]
 rng:∃tp p,w.var? Tryz.prog "strconv.ErrRange" =some #[.iface tp p]
theorem Env.here{w w':World}(h:Env w)(hb:Below w.1.size w w'):Env w':=
 ⟨h.pow.here hb,h.syn.elim fun tp h1=>h1.elim fun p h2=>⟨tp,p,Zb4 h2 hb⟩,h.rng.elim fun tp h1=>h1.elim fun p h2=>⟨tp,p,Zb4 h2 hb⟩⟩
section
variable {w w' W W':World} {p:Nat} {cs:Array Value} {T:TypeId}
structure Kp (w:World) (bs:List (Nat×Array Value×TypeId)) (W:World):Prop where
 pow:Env w
 bl:Below w.1.size w W
 own:∀b∈bs,w.1.size<=b.1
 ord:(bs.map (·.1)).Pairwise (fun a b=>a≠b)
 blk:∀b∈bs,BlkB W b.1 b.2.1 b.2.2
variable {bs:List (Nat×Array Value×TypeId)}
theorem Kp.start(hp:Env w):Kp w [] w:=⟨hp,Below.refl _ _,fun _ h=>by simp at h,.nil,fun _ h=>by simp at h⟩
theorem Kp.pw(h:Kp w bs W):Env W:=h.pow.here h.bl
theorem Kp.po(h:Kp w bs W):Pow W:=h.pw.pow
theorem Kp.here(h:Kp w bs W)(hb:Below W.1.size W W'):Kp w bs W':=
 ⟨h.pow,h.bl.trans (hb.mono h.bl.size),h.own,h.ord,fun b hm=>(h.blk b hm).here hb⟩
theorem Kp.drew(h:Kp w bs W):Kp w bs W.drew:=h.here (Below.refl _ W).drew
theorem Kp.drewN(h:Kp w bs W)(n:Nat):Kp w bs (W.drewN n):=h.here (bdN (Below.refl _ W) n)
theorem Kp.alloc(h:Kp w bs W)(o:Obj):Kp w bs (W.alloc o):=h.here ((Below.refl _ W).alloc (Nat.le_refl _) o)
theorem Kp.new(h:Kp w bs W)(p:Nat)(hp:p=W.1.size)(cs:Array Value)(T:TypeId):Kp w ((p,cs,T)::bs) (W.alloc (.cells cs T)):=by
 subst hp;have h':=h.alloc (.cells cs T);refine⟨h'.pow,h'.bl,?_,?_,?_⟩
 ·intro b hb
  rcases List.mem_cons.1 hb with rfl|hb
  ·exact h.bl.size
  ·exact h.own b hb
 ·refine .cons (fun b hb=> ?_) h.ord;obtain⟨x,hx,rfl⟩:=List.mem_map.1 hb
  exact fun e=>Nat.lt_irrefl _ (e▸(h.blk x hx).lt)
 ·intro b hb
  rcases List.mem_cons.1 hb with rfl|hb
  ·exact heap_alloc_new W _
  ·exact h'.blk b hb
theorem Kp.at_(h:Kp w bs W)(i:Nat)(hb:bs[i]?=some (p,cs,T)):BlkB W p cs T:=h.blk _ (List.mem_of_getElem? hb)
theorem Kp.c(h:Kp w bs W)(i j:Nat){v:Value}(hb:bs[i]?=some (p,cs,T))(hv:cs[j]?=some v):W.cell? ⟨p,j,none⟩=some v:=(h.at_ i hb).cell j hv
theorem Kp.f(h:Kp w bs W)(i j:Nat)(hb:bs[i]?=some (p,cs,T)):W.frozen? ⟨p,j,none⟩=false:=(h.at_ i hb).frozen j
theorem Kp.lt(h:Kp w bs W)(i:Nat)(hb:bs[i]?=some (p,cs,T)):p<W.1.size:=(h.at_ i hb).lt
theorem Kp.old(h:Kp w bs W)(i:Nat)(hb:bs[i]?=some (p,cs,T)):w.1.size<=p:=h.own _ (List.mem_of_getElem? hb)
theorem Kp.ne(h:Kp w bs W)(i k:Nat){q:Nat}{ds:Array Value}{U:TypeId}(hb:bs[i]?=some (p,cs,T))(hc:bs[k]?=some (q,ds,U))(hik:i≠k):p≠q:=by
 have hi:=(List.getElem?_eq_some_iff.1 hb).1;have hk:=(List.getElem?_eq_some_iff.1 hc).1;have hb':=(List.getElem?_eq_some_iff.1 hb).2;have hc':=(List.getElem?_eq_some_iff.1 hc).2;have ho:=List.pairwise_iff_getElem.1 h.ord
 rcases Nat.lt_or_ge i k with h1|h1
 ·have:=ho i k (by simpa using hi) (by simpa using hk) h1
  simp only[List.getElem_map,hb',hc'] at this;exact this
 ·have:=ho k i (by simpa using hk) (by simpa using hi) (by omega)
  simp only[List.getElem_map,hb',hc'] at this;exact fun e=>this e.symm
theorem Kp.set(h:Kp w bs W)(i j:Nat)(hb:bs[i]?=some (p,cs,T))(v:Value):Kp w (bs.set i (p,cs.setIfInBounds j v,T)) (W.setCell ⟨p,j,none⟩ v):=by
 have hbl:=(Below.refl w.1.size W).setCell (p:=⟨p,j,none⟩) (h.old i hb) v
 have hm:(bs.set i (p,cs.setIfInBounds j v,T)).map (·.1)=bs.map (·.1):=by
  refine List.ext_getElem? fun k=> ?_
  rw[List.getElem?_map,List.getElem?_map,List.getElem?_set]
  split
  ·rename_i e
   subst e;rw[hb]
   split
   ·rfl
   ·rename_i e2;exact absurd (List.getElem?_eq_some_iff.1 hb).1 e2
  ·rfl
 refine⟨h.pow,h.bl.trans hbl,?_,by rw[hm];exact h.ord,?_⟩
 ·intro b hx
  rcases List.mem_or_eq_of_mem_set hx with hx|rfl
  ·exact h.own b hx
  ·exact h.old i hb
 ·intro b hx;obtain⟨k,hk⟩:=List.getElem?_of_mem hx
  rw[List.getElem?_set] at hk
  split at hk
  ·split at hk
   ·injection hk with hk;subst hk;exact(h.at_ i hb).set j v
   ·cases hk
  ·rename_i hik
   obtain⟨q,ds,U⟩:=b
   exact(h.at_ k hk).far (a:=⟨p,j,none⟩) (h.ne k i hk hb (fun e=>hik e.symm)) v
end
def Vd(f:FuncId)(args:Array Value)(r:Value):Prop:=∀W,Env W->Calls Tryz.prog f args W fun e w'=>e=.returned r/\Below W.1.size W w'
end
section
open Go.RowKit Go.Shelf
section
variable {w W:World} {bs:List (Nat×Array Value×TypeId)} {p:Nat} {cs:Array Value} {T:TypeId}
theorem QK(W:World)(g:Nat)(c:Array Value){j:Nat}(h:j≠g):(W.setRow g c).heap[j]?=W.heap[j]?:=by
 unfold World.setRow;simp[Array.getElem?_modify,show ¬g=j from fun e=>h e.symm]
theorem Ve{W:World}{g:Nat}(c:Array Value)(h:BlkB W g cs T):BlkB (W.setRow g c) g c T:=by
 unfold BlkB at*
 unfold World.setRow;simp[Array.getElem?_modify,h]
theorem ZaL(W:World){n g:Nat}(hg:n<=g)(c:Array Value):Below n W (W.setRow g c):=
 ⟨rfl,rfl,rfl,by simp[World.setRow],fun k hk=>QK W g c (by omega)⟩
theorem Kp.row(h:Kp w bs W)(i:Nat)(hb:bs[i]?=some (p,cs,T))(c:Array Value):Kp w (bs.set i (p,c,T)) (W.setRow p c):=by
 have hm:(bs.set i (p,c,T)).map (·.1)=bs.map (·.1):=by
  refine List.ext_getElem? fun k=> ?_
  rw[List.getElem?_map,List.getElem?_map,List.getElem?_set]
  split
  ·rename_i e
   subst e;rw[hb]
   split
   ·rfl
   ·rename_i e2;exact absurd (List.getElem?_eq_some_iff.1 hb).1 e2
  ·rfl
 refine⟨h.pow,h.bl.trans (ZaL W (h.old i hb) c),?_,by rw[hm];exact h.ord,?_⟩
 ·intro b hx
  rcases List.mem_or_eq_of_mem_set hx with hx|rfl
  ·exact h.own b hx
  ·exact h.old i hb
 ·intro b hx;obtain⟨k,hk⟩:=List.getElem?_of_mem hx
  rw[List.getElem?_set] at hk
  split at hk
  ·split at hk
   ·injection hk with hk;subst hk;exact Ve c (h.at_ i hb)
   ·cases hk
  ·rename_i hik
   obtain⟨q,ds,U⟩:=b
   exact(QK W p c (h.ne k i hk hb (fun e=>hik e.symm))).trans (h.at_ k hk)
end
end
section
open Go.RowKit Go.Shelf
attribute [local go_sem] Oper.semAt_some
section
variable {w w' W W' X:World} {bs:List (Nat×Array Value×TypeId)} {row:Option Nat} {B:Nat}
def Zby(B:Nat)(W:World)(row:Option Nat):Prop:=∀r,row=some r->B<=r/\∃o:Obj,W.heap[r]?=some o/\o.isCells=false
theorem Kp.turned(h:Kp w bs W)(hg:W.grownBy W' row)(hr:Zby B W row)(hB:w.1.size<=B):Kp w bs W':=by
 refine⟨h.pow,h.bl.trans ⟨hg.os,hg.tape,hg.output,hg.size,fun k hk=>hg.block k (by have:=h.bl.size;omega) (fun e=> ?_)⟩,h.own,h.ord,fun b hb=> ?_⟩
 ·have:=(hr k e.symm).1
  omega
 ·have hb':=h.blk b hb;refine(hg.block b.1 hb'.lt (fun e=> ?_)).trans hb';obtain⟨_,o,ho,hc⟩:=hr b.1 e.symm
  unfold BlkB at hb';rw[hb'] at ho;injection ho with ho;rw[<-ho] at hc
  cases hc
theorem Own.turned{α:Type}{enc:α->List Value}{k base:Nat}{e:TypeId}{v:Value}{xs:List α}(h:Own enc k e W base v xs)(hg:W.grownBy W' row)(hr:Zby B W row):Own enc k e W' base v xs:=by
 refine World.ownsRow.kept h hg ?_
 rcases h.2 with ⟨rfl,_⟩|⟨g,cap,cur,rfl,_,hgc,_⟩
 ·exact .inl rfl
 ·right
  intro e;obtain⟨_,o,ho,hc⟩:=hr g (by rw[<-e];rfl)
  rw[hgc] at ho;injection ho with ho;rw[<-ho] at hc
  cases hc
theorem Box.turned{b:Nat}{t:TypeId}{v:Value}(h:Box W b t v)(hg:W.grownBy W' row)(hr:Zby B W row):Box W' b t v:=by
 refine(hg.block b h.lt (fun e=> ?_)).trans h;obtain⟨_,o,ho,hc⟩:=hr b e.symm
 unfold Box at h;rw[h] at ho;injection ho with ho;rw[<-ho] at hc
 cases hc
def KeepS(S:Nat->Prop)(W W':World):Prop:=W.1.size<=W'.1.size/\∀b,S b->b<W.1.size->W'.heap[b]?=W.heap[b]?
theorem KeepS.refl(S:Nat->Prop)(W:World):KeepS S W W:=⟨Nat.le_refl _,fun _ _ _=>rfl⟩
theorem KeepS.trans{S:Nat->Prop}(h:KeepS S W W')(k:KeepS S W' X):KeepS S W X:=⟨Nat.le_trans h.1 k.1,fun b hb hl=>(k.2 b hb (Nat.lt_of_lt_of_le hl h.1)).trans (h.2 b hb hl)⟩
theorem KeepS.below{S:Nat->Prop}(hb:Below W.1.size W W'):KeepS S W W':=⟨hb.size,fun b _ hl=>hb.block b hl⟩
theorem KeepS.set{S:Nat->Prop}{p:Addr}(hp:¬S p.block)(v:Value):KeepS S W (W.setCell p v):=⟨by simp,fun b hb _=>Below.heap_setCell W p v b (fun e=>hp (e▸hb))⟩
theorem KeepS.put{S:Nat->Prop}{l:Nat}(hl:¬S l)(o:Obj):KeepS S W (W.putObj l o):=⟨by simp,fun b hb _=>World.putObj_heap_other (fun e=>hl (e▸hb))⟩
theorem KeepS.grown{S:Nat->Prop}(hg:W.grownBy W' row)(hr:∀r,row=some r->¬S r):KeepS S W W':=⟨hg.size,fun b hb hl=>hg.block b hl (fun e=>hr b e.symm hb)⟩
theorem KeepS.sl{α:Type}{enc:α->List Value}{k n:Nat}{A:Option Addr}{xs:List α}{S:Nat->Prop}{N:Nat}(h:KeepS S W W')(hs:Sl enc k W N A n xs)(hN:∀b,b<N->S b/\b<W.1.size):Sl enc k W' N A n xs:=
 hs.keep fun p hp=>World.cell?_of_block (h.2 p.block (hN _ hp).1 (hN _ hp).2)
theorem KeepS.box{b:Nat}{t:TypeId}{v:Value}{S:Nat->Prop}(h:KeepS S W W')(hs:Box W b t v)(hb:S b):Box W' b t v:=(h.2 b hb hs.lt).trans hs
theorem KeepS.blk{b:Nat}{t:TypeId}{cs:Array Value}{S:Nat->Prop}(h:KeepS S W W')(hs:BlkB W b cs t)(hb:S b):BlkB W' b cs t:=(h.2 b hb hs.lt).trans hs
end
end
section
open Go.RowKit Go.Shelf
def Bz(W X:World):Prop:=Below W.1.size W X
section
variable {W X Y:World}
theorem Bz.refl(W:World):Bz W W:=Below.refl _ _
theorem Bz.drew(h:Bz W X):Bz W X.drew:=Below.drew h
theorem Bz.size(h:Bz W X):W.1.size<=X.1.size:=Below.size h
theorem Bz.alloc(h:Bz W X)(o:Obj):Bz W (X.alloc o):=Below.alloc h (Below.size h) o
theorem Bz.call(h:Bz W X)(hb:Below X.1.size X Y):Bz W Y:=Below.trans h (hb.mono (Below.size h))
theorem Bz.set{p:Nat}(h:Bz W X)(hp:W.1.size<=p)(j:Nat)(u:Value):Bz W (X.setCell ⟨p,j,none⟩ u):=Below.setCell h hp u
variable {w:World} {bs:List (Nat×Array Value×TypeId)} {p:Nat} {cs:Array Value} {T:TypeId}
theorem Kp.set2{a b:Value}(h:Kp w ((p,#[a,b],T)::bs) X)(c d:Value):Kp w ((p,#[c,d],T)::bs) ((X.setCell ⟨p,0,none⟩ c).setCell ⟨p,1,none⟩ d):=by
 have h2:=(h.set 0 0 rfl c).set 0 1 rfl d;exact h2
theorem Kp.tail{b:Nat×Array Value×TypeId}(h:Kp w (b::bs) X):Kp w bs X:=
 ⟨h.pow,h.bl,fun x hx=>h.own x (List.mem_cons_of_mem _ hx),(List.pairwise_cons.1 h.ord).2,fun x hx=>h.blk x (List.mem_cons_of_mem _ hx)⟩
end
end
section
open Go.RowKit Go.Shelf
def ZaD(v:Value):Option (DataW Value×List MemPlace):=some (.held v,[])
def Zi5(D:DataW Value)(m:List UInt8->Option Value):Prop:=Maps.IsMap D/\∀k:List UInt8,Maps.has D (.string k)=(m k).isSome/\∀z,D.atKey (.string k) z=(match m k with|some v=>.held v|none=>z)
def SmB(w:World)(b n:Nat)(m:List UInt8->Option Value):Prop:=∃D,w.ownsMap Tryz.prog 9 ZaD b n D/\Zi5 D m
section
variable {w w':World} {b n:Nat} {m:List UInt8->Option Value} {t e:TypeId} {k:List UInt8}
theorem SmB.lt(h:SmB w b n m):b<w.1.size:=h.elim fun _ h=>h.1.lt
theorem SmB.here(h:SmB w b n m)(hb:Below w.1.size w w'):SmB w' b n m:=by
 obtain⟨D,⟨es,clock,h1,h2⟩,h3⟩:=h
 exact⟨D,⟨es,clock,(hb.block b (Array.getElem?_eq_some_iff.1 h1).1).trans h1,h2⟩,h3⟩
theorem SmB.grown{row:Option Nat}(h:SmB w b n m)(hg:w.grownBy w' row)(hne:some b≠row):SmB w' b n m:=by
 obtain⟨D,h1,h3⟩:=h
 exact⟨D,h1.kept hg hne,h3⟩
theorem SmB.alloc(h:SmB w b n m)(o:Obj):SmB (w.alloc o) b n m:=h.here ((Below.refl _ _).alloc (Nat.le_refl _) o)
theorem SmB.drew(h:SmB w b n m):SmB w.drew b n m:=h
theorem SmB.far(h:SmB w b n m){a:Addr}(hb:b≠a.block)(u:Value):SmB (w.setCell a u) b n m:=by
 obtain⟨D,⟨es,clock,h1,h2⟩,h3⟩:=h
 exact⟨D,⟨es,clock,(Below.heap_setCell w a u b hb).trans h1,h2⟩,h3⟩
theorem SmB.look(h:SmB w b n m)(ht:Tryz.prog.underlying t=some (.map 9 e)){z:Value}(hz:(zeroValue e).run Tryz.prog w=.ok z w)(h1:k.length<=maxLen):
 (Instr.lookup t (.map (some b)) (.string ⟨k.toArray⟩) false).run Tryz.prog w=.ok ((m k).getD z) w:=by
 obtain⟨D,ho,hm,hd⟩:=h
 obtain⟨v,ps,hr,hv⟩:=ho.lookup (Maps.string_keyed Tryz.underlying9) ht hz (zd:=.held z) (zp:=[]) rfl (key:=.string ⟨k.toArray⟩) (kl:=.string k) (by
  rw[Go.WideMaps.keyOf_string_mk Tryz.underlying9 (show(ByteArray.mk k.toArray).size<=maxLen from h1)])
 rw[hr];rw[(hd k).2] at hv;unfold ZaD at hv
 cases hk:m k<;>rw[hk] at hv<;>simp at hv<;>rw[hv.1]<;>rfl
theorem SmB.lookOk(h:SmB w b n m)(ht:Tryz.prog.underlying t=some (.map 9 e)){z:Value}(hz:(zeroValue e).run Tryz.prog w=.ok z w)(h1:k.length<=maxLen):
 (Instr.lookup t (.map (some b)) (.string ⟨k.toArray⟩) true).run Tryz.prog w=.ok (.tuple #[(m k).getD z,.bool (m k).isSome]) w:=by
 obtain⟨D,ho,hm,hd⟩:=h
 obtain⟨v,ps,hr,hv⟩:=ho.look_ok (Maps.string_keyed Tryz.underlying9) ht hz (zd:=.held z) (zp:=[]) rfl (key:=.string ⟨k.toArray⟩) (kl:=.string k) (by
  rw[Go.WideMaps.keyOf_string_mk Tryz.underlying9 (show(ByteArray.mk k.toArray).size<=maxLen from h1)])
 rw[hr,(hd k).1];rw[(hd k).2] at hv;unfold ZaD at hv
 cases hk:m k<;>rw[hk] at hv<;>simp at hv<;>rw[hv.1]<;>rfl
theorem SmB.put(h:SmB w b n m)(ht:Tryz.prog.underlying t=some (.map 9 e))(hn:n<maxLen)(h1:k.length<=maxLen)(v:Value):
 ∃w',(Instr.mapUpdate t (.map (some b)) (.string ⟨k.toArray⟩) v).run Tryz.prog w=.ok () w'/\SmB w' b (n+1) (fun j=>if j=k then some v else m j)/\w.grownBy w' (some b):=by
 obtain⟨D,ho,hm,hd⟩:=h
 obtain⟨w',hr,ho',hg⟩:=ho.update (Maps.string_keyed Tryz.underlying9) ht hn (key:=.string ⟨k.toArray⟩) (kl:=.string k) (by
  rw[Go.WideMaps.keyOf_string_mk Tryz.underlying9 (show(ByteArray.mk k.toArray).size<=maxLen from h1)]) (val:=v) (d:=.held v) (ps:=[]) rfl
 refine⟨w',hr,⟨_,ho',hm.put _ _,fun j=> ?_⟩,hg⟩
 by_cases ej:j=k
 ·subst ej;refine⟨by rw[Maps.has_put_same hm (by simp[WideAt.IsKeyLit])];simp,fun z=> ?_⟩;rw[Maps.atKey_put_same hm (by simp[WideAt.IsKeyLit])];simp
 ·have hne:(Lit.string j)≠ .string k:=fun h=>ej (by injection h)
  refine⟨by rw[Maps.has_put_other hne];simp[ej,(hd j).1],fun z=> ?_⟩;rw[Maps.atKey_put_other hne,(hd j).2];simp[ej]
end
end
section
open Go.RowKit Go.Shelf
def ZfO(v:Value):Option (DataW Value×List MemPlace):=some (.held v,[])
def Zi7(D:DataW Value)(m:Int->Option Value):Prop:=Maps.IsMap D/\∀k:Int,Maps.has D (.int .i64 k)=(m k).isSome/\∀z,D.atKey (.int .i64 k) z=(match m k with|some v=>.held v|none=>z)
def ImB(w:World)(b n:Nat)(m:Int->Option Value):Prop:=∃D,w.ownsMap Tryz.prog 3 ZfO b n D/\Zi7 D m
theorem ZdW(w:World):ImB (w.alloc (.map #[] 0)) w.1.size 0 (fun _=>none):=
 ⟨.map [],World.ownsMap_made _ _ _ _,⟨[],rfl⟩,fun _k=>⟨rfl,fun _z=>rfl⟩⟩
theorem wfI{k:Int}(h1: -9223372036854775808<=k)(h2:k<=9223372036854775807):(Lit.int .i64 k).wf=true:=by
 have e1:IntKind.i64.min= -9223372036854775808:=rfl;have e2:IntKind.i64.max=9223372036854775807:=rfl;simp[Lit.wf]
 omega
section
variable {w w':World} {b n:Nat} {m:Int->Option Value} {t e:TypeId} {k:Int}
theorem ImB.lt(h:ImB w b n m):b<w.1.size:=h.elim fun _ h=>h.1.lt
theorem ImB.here(h:ImB w b n m)(hb:Below w.1.size w w'):ImB w' b n m:=by
 obtain⟨D,⟨es,clock,h1,h2⟩,h3⟩:=h
 exact⟨D,⟨es,clock,(hb.block b (Array.getElem?_eq_some_iff.1 h1).1).trans h1,h2⟩,h3⟩
theorem ImB.grown{row:Option Nat}(h:ImB w b n m)(hg:w.grownBy w' row)(hne:some b≠row):ImB w' b n m:=by
 obtain⟨D,h1,h3⟩:=h
 exact⟨D,h1.kept hg hne,h3⟩
theorem ImB.alloc(h:ImB w b n m)(o:Obj):ImB (w.alloc o) b n m:=h.here ((Below.refl _ _).alloc (Nat.le_refl _) o)
theorem ImB.drew(h:ImB w b n m):ImB w.drew b n m:=h
theorem ImB.far(h:ImB w b n m){a:Addr}(hb:b≠a.block)(u:Value):ImB (w.setCell a u) b n m:=by
 obtain⟨D,⟨es,clock,h1,h2⟩,h3⟩:=h
 exact⟨D,⟨es,clock,(Below.heap_setCell w a u b hb).trans h1,h2⟩,h3⟩
theorem ImB.look(h:ImB w b n m)(ht:Tryz.prog.underlying t=some (.map 3 e)){z:Value}(hz:(zeroValue e).run Tryz.prog w=.ok z w)(h1: -9223372036854775808<=k)(h2:k<=9223372036854775807):
 (Instr.lookup t (.map (some b)) (.int .i64 k) false).run Tryz.prog w=.ok ((m k).getD z) w:=by
 obtain⟨D,ho,hm,hd⟩:=h
 obtain⟨v,ps,hr,hv⟩:=ho.lookup (Maps.int_keyed Tryz.underlying3) ht hz (zd:=.held z) (zp:=[]) rfl (key:=.int .i64 k) (kl:=.int .i64 k) (Maps.keyOf_int_mk Tryz.underlying3 (wfI h1 h2))
 rw[hr];rw[(hd k).2] at hv;unfold ZfO at hv
 cases hk:m k<;>rw[hk] at hv<;>simp at hv<;>rw[hv.1]<;>rfl
theorem ImB.lookOk(h:ImB w b n m)(ht:Tryz.prog.underlying t=some (.map 3 e)){z:Value}(hz:(zeroValue e).run Tryz.prog w=.ok z w)(h1: -9223372036854775808<=k)(h2:k<=9223372036854775807):
 (Instr.lookup t (.map (some b)) (.int .i64 k) true).run Tryz.prog w=.ok (.tuple #[(m k).getD z,.bool (m k).isSome]) w:=by
 obtain⟨D,ho,hm,hd⟩:=h
 obtain⟨v,ps,hr,hv⟩:=ho.look_ok (Maps.int_keyed Tryz.underlying3) ht hz (zd:=.held z) (zp:=[]) rfl (key:=.int .i64 k) (kl:=.int .i64 k) (Maps.keyOf_int_mk Tryz.underlying3 (wfI h1 h2))
 rw[hr,(hd k).1];rw[(hd k).2] at hv;unfold ZfO at hv
 cases hk:m k<;>rw[hk] at hv<;>simp at hv<;>rw[hv.1]<;>rfl
theorem ImB.put(h:ImB w b n m)(ht:Tryz.prog.underlying t=some (.map 3 e))(hn:n<maxLen)(h1: -9223372036854775808<=k)(h2:k<=9223372036854775807)(v:Value):
 ∃w',(Instr.mapUpdate t (.map (some b)) (.int .i64 k) v).run Tryz.prog w=.ok () w'/\ImB w' b (n+1) (fun j=>if j=k then some v else m j)/\w.grownBy w' (some b):=by
 obtain⟨D,ho,hm,hd⟩:=h
 obtain⟨w',hr,ho',hg⟩:=ho.update (Maps.int_keyed Tryz.underlying3) ht hn (key:=.int .i64 k) (kl:=.int .i64 k) (Maps.keyOf_int_mk Tryz.underlying3 (wfI h1 h2)) (val:=v) (d:=.held v) (ps:=[]) rfl
 refine⟨w',hr,⟨_,ho',hm.put _ _,fun j=> ?_⟩,hg⟩
 by_cases ej:j=k
 ·subst ej;refine⟨by rw[Maps.has_put_same hm (by simp[WideAt.IsKeyLit])];simp,fun z=> ?_⟩;rw[Maps.atKey_put_same hm (by simp[WideAt.IsKeyLit])];simp
 ·have hne:(Lit.int .i64 j)≠ .int .i64 k:=fun h=>ej (by injection h)
  refine⟨by rw[Maps.has_put_other hne];simp[ej,(hd j).1],fun z=> ?_⟩;rw[Maps.atKey_put_other hne,(hd j).2];simp[ej]
end
end
section
open Go.RowKit Go.Shelf
def SeenB(w:World)(b n:Nat)(l:List (List UInt8)):Prop:=
 ∃D:DataW Unit,w.ownsMap Tryz.prog 9 (plainElem Tryz.prog 4) b n D/\Maps.IsMap D/\∀s,D.atKey (.string s) (.lit (.bool false))=.lit (.bool (decide (s∈l)))
theorem Za3(w:World):SeenB (w.alloc (.map #[] 0)) w.1.size 0 []:=
 ⟨.map [],World.ownsMap_made _ _ _ _,⟨[],rfl⟩,fun s=>by simp[DataW.atKey]⟩
section
variable {w W W':World} {p:Nat} {bs:List (Nat×Array Value×TypeId)}
theorem Kp.bare(h:Kp w bs W):Kp w [] W:=⟨h.pow,h.bl,fun _ h=>by simp at h,.nil,fun _ h=>by simp at h⟩
theorem Kp.turn(h:Kp w [] W)(hg:W.grownBy W' (some p))(hp:w.1.size<=p):Kp w [] W':=
 ⟨h.pow,h.bl.trans ⟨hg.os,hg.tape,hg.output,hg.size,fun k hk=>hg.block k (by have:=h.bl.size;omega) (fun e=>by injection e with e;omega)⟩,fun _ h=>by simp at h,.nil,fun _ h=>by simp at h⟩
end
section
variable {w w':World} {b n:Nat} {l:List (List UInt8)} {t:TypeId}
theorem SeenB.lt(h:SeenB w b n l):b<w.1.size:=h.elim fun _ h=>h.1.lt
theorem SeenB.here(h:SeenB w b n l)(hb:Below w.1.size w w'):SeenB w' b n l:=by
 obtain⟨D,⟨es,clock,h1,h2⟩,h3⟩:=h
 exact⟨D,⟨es,clock,(hb.block b (Array.getElem?_eq_some_iff.1 h1).1).trans h1,h2⟩,h3⟩
theorem SeenB.alloc(h:SeenB w b n l)(o:Obj):SeenB (w.alloc o) b n l:=h.here ((Below.refl _ _).alloc (Nat.le_refl _) o)
theorem SeenB.drew(h:SeenB w b n l):SeenB w.drew b n l:=h
theorem SeenB.far(h:SeenB w b n l){a:Addr}(hb:b≠a.block)(u:Value):SeenB (w.setCell a u) b n l:=by
 obtain⟨D,⟨es,clock,h1,h2⟩,h3⟩:=h
 exact⟨D,⟨es,clock,(Below.heap_setCell w a u b hb).trans h1,h2⟩,h3⟩
theorem SeenB.look(h:SeenB w b n l)(ht:Tryz.prog.underlying t=some (.map 9 4)){s:List UInt8}(hs:s.length<=maxLen):(Instr.lookup t (.map (some b)) (.string ⟨s.toArray⟩) false).run Tryz.prog w=.ok (.bool (decide (s∈l))) w:=by
 obtain⟨D,h1,h2,h3⟩:=h
 obtain⟨v,ps,hr,hv⟩:=h1.lookup (Maps.string_keyed Tryz.underlying9) ht (z:=.bool false) (by kernel_rfl) (plainElem_bool Tryz.underlying4 false) (key:=.string ⟨s.toArray⟩) (kl:=.string s) (by
  rw[Go.WideMaps.keyOf_string_mk Tryz.underlying9 (show(ByteArray.mk s.toArray).size<=maxLen from hs)])
 rw[h3 s] at hv;unfold plainElem at hv;rw[show Tryz.prog.underlying 4=some .bool from Tryz.underlying4] at hv
 cases v<;>simp at hv
 rw[hr,hv.1]
theorem SeenB.put(h:SeenB w b n l)(ht:Tryz.prog.underlying t=some (.map 9 4))(hn:n<maxLen){s:List UInt8}(hs:s.length<=maxLen):
 ∃w',(Instr.mapUpdate t (.map (some b)) (.string ⟨s.toArray⟩) (.bool true)).run Tryz.prog w=.ok () w'/\SeenB w' b (n+1) (s::l)/\w.grownBy w' (some b):=by
 obtain⟨D,h1,h2,h3⟩:=h
 obtain⟨w',hr,ho,hg⟩:=h1.update (Maps.string_keyed Tryz.underlying9) ht hn (key:=.string ⟨s.toArray⟩) (kl:=.string s) (by
  rw[Go.WideMaps.keyOf_string_mk Tryz.underlying9 (show(ByteArray.mk s.toArray).size<=maxLen from hs)]) (plainElem_bool Tryz.underlying4 true)
 refine⟨w',hr,⟨_,ho,h2.put _ _,fun s'=> ?_⟩,hg⟩
 by_cases e:s'=s
 ·subst e;rw[Maps.atKey_put_same h2 (by simp[WideAt.IsKeyLit])];simp
 ·rw[Maps.atKey_put_other (by intro h;injection h with h;exact e h),h3 s'];simp[e]
end
end
section
open Go.RowKit Go.Shelf
def S1(s:List UInt8):List Value:=[S s]
theorem XY(s:List UInt8):(S1 s).length=1:=rfl
abbrev Vc(w:World)(B:Nat)(A:Option Addr)(n:Nat)(xs:List (List UInt8)):Prop:=Sl S1 1 w B A n xs
theorem Sl.st{w:World}{B:Nat}{A:Option Addr}{n:Nat}{xs:List (List UInt8)}{i:Nat}(h:Vc w B A n xs)(hi:i<n):
 ∃b off x,A=some ⟨b,off,none⟩/\b<B/\xs[i]?=some x/\w.cell? ⟨b,off+i,none⟩=some (.string ⟨x.toArray⟩):=by
 obtain⟨b,off,x,hA,hb,hx,hc⟩:=h.at_ hi
 have:=hc 0 _ rfl
 rw[Nat.mul_one,Nat.add_zero] at this;exact⟨b,off,x,hA,hb,hx,this⟩
end
section
open Go.RowKit Go.Shelf
structure KpX (E:Nat->Prop) (T:TypeId) (M:Nat) (A B:World):Prop where
 size:A.1.size<=B.1.size
 blk:∀b,b<A.1.size->¬E b->(M<=b->∀cs fz,A.heap[b]?≠some (.cells cs T fz))->B.heap[b]?=A.heap[b]?
 os:B.os=A.os
 tape:B.tape=A.tape
 output:B.output=A.output
section
variable {E E':Nat->Prop} {T:TypeId} {M:Nat} {A B C:World} {b:Nat}
theorem KpX.refl(A:World):KpX E T M A A:=⟨Nat.le_refl _,fun _ _ _ _=>rfl,rfl,rfl,rfl⟩
theorem KpX.trans(h:KpX E T M A B)(k:KpX E T M B C):KpX E T M A C:=
 ⟨Nat.le_trans h.size k.size,fun b hb he ht=>by
  have h1:=h.blk b hb he ht;rw[<-h1];exact k.blk b (Nat.lt_of_lt_of_le hb h.size) he (fun hM cs fz=>by rw[h1];exact ht hM cs fz),k.os.trans h.os,k.tape.trans h.tape,k.output.trans h.output⟩
theorem KpX.below(h:Below A.1.size A B):KpX E T M A B:=⟨h.size,fun b hb _ _=>h.block b hb,h.os,h.tape,h.output⟩
theorem KpX.more(h:KpX E T M A B)(hE:∀b,E b->E' b):KpX E' T M A B:=⟨h.size,fun b hb he ht=>h.blk b hb (fun e=>he (hE b e)) ht,h.os,h.tape,h.output⟩
theorem KpX.grown{row:Option Nat}(hg:A.grownBy B row)(hr:∀r,row=some r->E r\/(M<=r/\∃cs fz,A.heap[r]?=some (.cells cs T fz))):KpX E T M A B:=
 ⟨hg.size,fun b hb he ht=>hg.block b hb (fun e=>by
  rcases hr b e.symm with h|⟨h1,cs,fz,h2⟩
  ·exact he h
  ·exact ht h1 cs fz h2),hg.os,hg.tape,hg.output⟩
theorem KpX.put{l:Nat}(hl:E l)(o:Obj):KpX E T M A (A.putObj l o):=KpX.grown (grownBy_putObj' A l o) (fun r e=>by cases e;exact .inl hl)
theorem KpX.set{p:Addr}(hp:E p.block)(v:Value):KpX E T M A (A.setCell p v):=⟨by simp,fun b _ he _=>Below.heap_setCell A p v b (fun e=>he (e▸hp)),rfl,rfl,rfl⟩
theorem KpX.cells(h:KpX E T M A B){t:TypeId}{cs:Array Value}{fz:Nat×Nat}(ho:A.heap[b]?=some (.cells cs t fz))(he:¬E b)(ht:t≠T):B.heap[b]?=some (.cells cs t fz):=by
 rw[h.blk b (Array.getElem?_eq_some_iff.1 ho).1 he (fun _ cs' fz' e=>by rw[ho] at e;injection e with e;injection e with _ e;exact ht e)];exact ho
theorem KpX.box(h:KpX E T M A B){t:TypeId}{v:Value}(hb:Box A b t v)(he:¬E b)(ht:t≠T):Box B b t v:=h.cells hb he ht
theorem KpX.low{N:Nat}(h:KpX E T M A B)(hN:N<=M)(hA:N<=A.1.size)(hE:∀b,b<N->¬E b):Below N A B:=
 ⟨h.os,h.tape,h.output,h.size,fun b hb=>h.blk b (by omega) (hE b hb) (fun hM=>by omega)⟩
theorem KpX.sl{α:Type}{enc:α->List Value}{k n:Nat}{P:Option Addr}{xs:List α}{N:Nat}(h:KpX E T M A B)(hs:Sl enc k A N P n xs)(hN:N<=M)(hA:N<=A.1.size)(hE:∀b,b<N->¬E b):Sl enc k B N P n xs:=
 hs.below (h.low hN hA hE)
end
end
section
open Go.RowKit
def Tls{α:Type}(enc:α->Value)(e:TypeId)(w:World)(base:Nat)(v:Value)(xs:List α):Prop:=
 ∃g off c cur,v=.slice (some ⟨g,off,none⟩) xs.length c/\base<=g/\w.heap[g]?=some (.cells cur e (0,0))/\xs.length<=c/\off+c<=cur.size/\off+c<=maxLen/\∀i x,xs[i]?=some x->cur[off+i]?=some (enc x)
section
variable {α:Type} {enc:α->Value} {e:TypeId} {w w':World} {base n c:Nat} {A:Option Addr} {v:Value} {xs:List α} {x:α}
theorem Tls.form(h:Tls enc e w base v xs):∃g off c,v=.slice (some ⟨g,off,none⟩) xs.length c/\base<=g/\g<w.1.size/\xs.length<=c/\∀i x,xs[i]?=some x->w.cell? ⟨g,off+i,none⟩=some (enc x):=by
 obtain⟨g,off,c,cur,rfl,h1,h2,h3,h4,h5,h6⟩:=h
 exact⟨g,off,c,rfl,h1,(Array.getElem?_eq_some_iff.1 h2).1,h3,fun i x hx=>(cell_of_row w g (off+i) cur e (0,0) h2).trans (h6 i x hx)⟩
theorem Tls.here(h:Tls enc e w base v xs)(hb:Below w.1.size w w'):Tls enc e w' base v xs:=by
 obtain⟨g,off,c,cur,rfl,h1,h2,h3⟩:=h
 exact⟨g,off,c,cur,rfl,h1,(hb.block g (Array.getElem?_eq_some_iff.1 h2).1).trans h2,h3⟩
theorem Tls.grown{row:Option Nat}(h:Tls enc e w base v xs)(hg:w.grownBy w' row)(hne:v.ownBlock≠row):Tls enc e w' base v xs:=by
 obtain⟨g,off,c,cur,rfl,h1,h2,h3⟩:=h
 exact⟨g,off,c,cur,rfl,h1,(hg.block g (Array.getElem?_eq_some_iff.1 h2).1 (fun e=>hne e)).trans h2,h3⟩
theorem Tls.far(h:Tls enc e w base v xs){a:Addr}(hne:v.ownBlock≠some a.block)(u:Value):Tls enc e (w.setCell a u) base v xs:=by
 obtain⟨g,off,c,cur,rfl,h1,h2,h3⟩:=h
 exact⟨g,off,c,cur,rfl,h1,(Below.heap_setCell w a u g (fun e=>hne (by rw[<-e];rfl))).trans h2,h3⟩
theorem Tls.base_{base':Nat}(h:Tls enc e w base v xs)(hb:base'<=base):Tls enc e w base' v xs:=by
 obtain⟨g,off,c,cur,h0,h1,h2⟩:=h
 exact⟨g,off,c,cur,h0,Nat.le_trans hb h1,h2⟩
theorem Tls.pop(h:Tls enc e w base v (x::xs)):∃g off c,v=.slice (some ⟨g,off,none⟩) (xs.length+1) c/\xs.length+1<=c/\Tls enc e w base (.slice (if c=1 then some ⟨g,off,none⟩ else some ⟨g,off+1,none⟩) xs.length (c-1)) xs:=by
 obtain⟨g,off,c,cur,rfl,h1,h2,h3,h4,h5,h6⟩:=h
 rw[List.length_cons] at h3;refine⟨g,off,c,rfl,h3,?_⟩
 by_cases hc:c=1
 ·subst hc;have hx:xs=[]:=List.eq_nil_of_length_eq_zero (by omega);subst hx;rw[if_pos rfl];exact⟨g,off,0,cur,rfl,h1,h2,Nat.le_refl _,by omega,by omega,fun i y hy=>by simp at hy⟩
 ·rw[if_neg hc];refine⟨g,off+1,c-1,cur,rfl,h1,h2,by omega,by omega,by omega,fun i y hy=> ?_⟩;have:=h6 (i+1) y (by simpa using hy)
  rwa [show off+1+i=off+(i+1) by omega]
theorem ZaH(w:World)(b i:Nat)(v:Value):w.grownBy (w.setCell ⟨b,i,none⟩ v) (some b):=
 ⟨rfl,rfl,rfl,by simp[World.setCell],fun k _ hk=>Below.heap_setCell w ⟨b,i,none⟩ v k (fun e=>hk (by rw[e]))⟩
theorem Tls.of_own(h:Own (fun x=>[enc x]) 1 e w base (.slice A n c) xs)(hx:0<xs.length):Tls enc e w base (.slice A n c) xs:=by
 obtain⟨h1,h2⟩:=h
 rcases h2 with ⟨_,h0⟩|⟨g,cap,cur,hv,hb,hg,hn,hm,hc,ht⟩
 ·omega
 ·cases hv
  refine⟨g,0,c,cur,rfl,hb,hg,hn,by omega,by omega,fun i x hi=> ?_⟩;have hf:=Vt (enc:=fun x=>[enc x]) (k:=1) (fun _=>rfl) xs i 0 x (enc x) hi rfl;rw[<-ht,List.getElem?_take,Nat.mul_one,Nat.add_zero] at hf
  split at hf
  ·rw[Nat.zero_add,<-Array.getElem?_toList];exact hf
  ·cases hf
variable {P:Program}
theorem ZcO(t ty:TypeId){bytes:Nat}(hT:Yt P t e 1 bytes)(h1:∀x,(enc x).oneCell'=true)(h:Tls enc e w base v xs)(B:Nat)(A:Option Addr)(c:Nat)(hr:Sl (fun x=>[enc x]) 1 w B A 1 [x])
 (hlen:xs.length+1<=100000000000) (hbase:base<=w.1.size):
 ∃v' w',(Builtin.append_ #[t,t] ty #[v,.slice A 1 c]).run P w=.ok v' w'/\Tls enc e w' base v' (xs++[x])/\w.grownBy w' v.ownBlock:=by
 obtain⟨g,off,cp,cur,rfl,hb,hg,hn,hc,hm,hx⟩:=h
 by_cases hroom:xs.length<cp
 ·obtain⟨i,z,ht,hi,hz,hsize,hby,hzs,hsz,hbt⟩:=hT
  obtain⟨b,o2,rfl,_,hcell⟩:=hr.2 (by omega)
  have hnews:∀j u,[enc x][j]?=some u->w.cell? ((⟨b,o2,none⟩:Addr).add j)=some u:=fun j u hu=>by
   rw[Addr.add_lit];have:=hcell 0 x rfl j u hu
   rwa [Nat.zero_mul,Nat.add_zero] at this
  have hcs:∀j,j<1->w.cell? ⟨g,off+xs.length+j,none⟩=some cur[off+xs.length]:=fun j hj=>by
   obtain rfl:j=0:=by omega
   rw[Nat.add_zero,cell_of_row w g _ cur e (0,0) hg];exact Array.getElem?_eq_getElem (by omega)
  have hrun:=run_append_room_cells (P:=P) w t ty e i ht hi g off xs.length cp ⟨b,o2,none⟩ 1 c [enc x] (by rw[hsize];rfl) hnews (fun u hu=>by rw[List.mem_singleton.1 hu];exact h1 x) (by omega)
   (fun j hj=>by rw[hsize,Nat.mul_one,hcs j hj];rfl) (fun j _=>BlkB.frozen (show BlkB w g cur e from hg) _)
  rw[hsize,Nat.mul_one] at hrun;have hset:=BlkB.set (show BlkB w g cur e from hg) (off+xs.length) (enc x);refine⟨_,_,hrun,⟨g,off,cp,_,by rw[List.length_append];rfl,hb,hset,by rw[List.length_append];exact hroom,by rw[Array.size_setIfInBounds];exact hc,hm,fun j y hy=> ?_⟩,ZaH w g _ _⟩;rw[Array.getElem?_setIfInBounds];rw[List.getElem?_append] at hy
  split at hy
  ·rename_i hj
   rw[if_neg (by omega)];exact hx j y hy
  ·rename_i hj
   have h2:=(List.getElem?_eq_some_iff.1 hy).1;rw[List.length_singleton] at h2;have h3:j=xs.length:=by omega
   subst h3;rw[Nat.sub_self,List.getElem?_cons_zero] at hy;rw[if_pos rfl,if_pos (by omega),Option.some.inj hy]
 ·obtain⟨A',c',w',hrun,ho,hg2⟩:=Ze2 (P:=P) w t ty hT (fun _=>rfl) (fun y u hu=>by rw[List.mem_singleton.1 hu];exact h1 y) (g+1) (some ⟨g,off,none⟩) xs.length cp xs
   ⟨rfl,fun _=>⟨g,off,rfl,Nat.lt_succ_self g,fun i y hi j u hj=>by
    cases j with
    |zero=>
     simp only[List.getElem?_cons_zero,Option.some.injEq] at hj;rw[Nat.mul_one,Nat.add_zero,cell_of_row w g _ cur e (0,0) hg,<-hj];exact hx i y hi
    |succ j=>simp at hj⟩⟩ (fun h=>by cases h) B A 1 c [x] hr hn (by omega) hlen
  have hln:xs.length+1=(xs++[x]).length:=by rw[List.length_append];rfl
  refine⟨_,w',hrun,(Tls.of_own ho (by rw[<-hln];omega)).base_ hbase,⟨hg2.os,hg2.tape,hg2.output,hg2.size,fun k hk _=>hg2.block k hk (fun h=>by cases h)⟩⟩
theorem Zdy{ops:Array Oper}{rest:List Oper}{o:Oper}{a:Act}{Q:Exit->Act->World->Prop}(hgd:o.guard=none)(s y:Operand)(t:TypeId)
 (ho:o.op=.call {callee:=.builtin .append,args:=#[s,y],argTypes:=#[t,t]}) {bytes:Nat} (hT:Yt P t e 1 bytes) (h1:∀x,(enc x).oneCell'=true) (hs:a.eval s=v) (h:Tls enc e w base v xs) (B:Nat) (A:Option Addr) (c:Nat) (hy:a.eval y=.slice A 1 c)
 (hr:Sl (fun x=>[enc x]) 1 w B A 1 [x]) (hlen:xs.length+1<=100000000000) (hbase:base<=w.1.size)
 (hK:∀v' w',Tls enc e w' base v' (xs++[x])->w.grownBy w' v.ownBlock->wpList P ops Q rest (a.put o.dst v') w'):wpList P ops Q (o::rest) a w:=by
 refine wpList_plain hgd fun _ hK'=> ?_
 obtain⟨v',w',hrun,h2,h3⟩:=ZcO (P:=P) t o.type hT h1 h B A c hr hlen hbase
 unfold Oper.wp execOp;simp only[ho,resolve,invoke,builtin,Sem.run_bind,Sem.run_pure,Result.andThen_ok,List.map_toArray,List.map_cons,List.map_nil,hs,hy,hrun];exact hK' _ _ (hK v' w' h2 h3)
end
end
section
open Go.RowKit Go.Shelf
theorem ZcT(g:Nat)(cb:Array Value)(p:List UInt8->Bool)(A:Option Addr)(n c:Nat)(xs:List (List UInt8))(w:World)(eg:∀args w,(callFunc g args).run Tryz.prog w=.ok (.enter g args) w)
 (hp:∀(W:World) (x:List UInt8),x∈xs->Below w.1.size w W->Calls Tryz.prog g (#[S x]++cb) W fun e w'=>e=.returned (.bool (p x))/\Below W.1.size W w') (hr:Sl S1 1 w w.1.size A n xs) (hn:n<=1000000000):
 Calls Tryz.prog 83 #[.slice A n c,.func (.func g) #[] cb] w fun e w'=>e=.returned (.int .i64 (Zaw p xs))/\Below w.1.size w w':=by
 have HPR:=jq hp;have HR:=jq hr;clear hp hr;go_enter Tryz.func83,Tryz.ntmps83
 go_wp2
 go_loopw [5,8] (fun _ i wr=>∃j:Nat,j<=n/\i=.int .i64 j/\Hid ((xs.take j).any p=false)/\Below w.1.size w wr) (fun _ i _=>n-(intOf i).toNat)
 case atStart=>exact⟨0,Nat.zero_le _,rfl,by show _=_;simp,Below.refl _ _⟩
 case round=>
  obtain⟨j,hj,rfl,HN,hb⟩:=hrel
  by_cases hlt:j<n
  ·obtain⟨b,off,r,rfl,hbl,hxj,hd⟩:=(HR.out.below hb).at_ hlt
   have d0:wr.cell? ⟨b,off+j,none⟩=some (.string ⟨r.toArray⟩):=by have:=hd 0 _ rfl;rwa [Nat.mul_one,Nat.add_zero] at this
   have HX:=jq hxj;have hcall:=HPR.out wr r (List.mem_of_getElem? hxj) hb;unfold S at hcall;clear hxj hd;have HC:=jq hcall;clear hcall
   cases hq:p r with
   |true=>
    rw[hq] at HC;have HQ:=jq hq;clear hq;go_wp2_with (go_at_fn g;refine(HC.out).mono ?_;rintro e w' ⟨rfl,hb'⟩)
    go_ret
    exact⟨Qa (Zb5 HX.out HQ.out HN.out).symm,hb.trans (hb'.mono hb.size)⟩
   |false=>
    rw[hq] at HC;have HQ:=jq hq;clear hq;go_wp2_with (go_at_fn g;refine(HC.out).mono ?_;rintro e w' ⟨rfl,hb'⟩)
    go_roundw
    case rel=>exact⟨j+1,by omega,by go_num,VG HX.out HN.out HQ.out,hb.trans (hb'.mono hb.size)⟩
    case measure=>simp[intOf];omega
  ·go_wp2
   go_ret
   exact⟨Qa (VF (by have:=HN.out;rwa [List.take_of_length_le (by have:=HR.out.1;omega)] at this)).symm,hb⟩
theorem YK(g:Nat)(cb:Array Value)(p:List UInt8->Bool)(A:Option Addr)(n c:Nat)(xs:List (List UInt8))(w:World)(eg:∀args w,(callFunc g args).run Tryz.prog w=.ok (.enter g args) w)
 (hp:∀(W:World) (x:List UInt8),x∈xs->Below w.1.size w W->Calls Tryz.prog g (#[S x]++cb) W fun e w'=>e=.returned (.bool (p x))/\Below W.1.size W w') (hr:Sl S1 1 w w.1.size A n xs) (hn:n<=1000000000):
 Calls Tryz.prog 42 #[.slice A n c,.func (.func g) #[] cb] w fun e w'=>e=.returned (.bool (xs.any p))/\Below w.1.size w w':=by
 have H:=jq (ZcT g cb p A n c xs w eg hp hr hn);clear hp eg hr;have e:=Je p xs;generalize Zaw p xs=z at*;have E:=jq e;clear e;go_enter Tryz.func42,Tryz.ntmps42
 go_wp2_with (go_at_call 83;refine(H.out).mono ?_;rintro e w' ⟨rfl,hb'⟩)
 go_ret
 exact⟨Qm E.out,hb'⟩
end
section
open Go.RowKit Go.Shelf
attribute [local go_sem] Oper.semAt_some
attribute [local go_sem ↓] Go.wp_at_zero Go.wp_at_succ
theorem Jr(A A':Option Addr)(n c c':Nat)(xs:List (List UInt8))(w:World)(h1:Vc w w.1.size A n xs)(h2:Vc w w.1.size A' n xs)(hn:n<=1000000):
 Calls Tryz.prog 18 #[.slice A n c,.slice A' n c'] w fun e w'=>e=.returned (.bool true)/\Below w.1.size w w':=by
 have H1:=jq h1;have H2:=jq h2;clear h1 h2;have hne:((n:Int) !=(n:Int))=false:=by simp
 go_enter Tryz.func18,Tryz.ntmps18
 go_wp2_with fail
 go_loopw [5,13] (fun _ j wr=>∃k:Nat,k<=n/\j=.int .i64 k/\Hid (Below w.1.size w wr)) (fun _ j _=>n-(intOf j).toNat)
 case atStart=>exact⟨0,Nat.zero_le _,rfl,Below.refl _ _⟩
 case round=>
  obtain⟨k,hk,rfl,HB⟩:=hrel
  by_cases hlt:k<n
  ·obtain⟨b,off,y,rfl,hb,hy,d0⟩:=(H1.out.here HB.out).st hlt
   obtain⟨b2,off2,z,rfl,hb2,hz,e0⟩:=(H2.out.here HB.out).st hlt
   have hyz:z=y:=by rw[hy] at hz;injection hz with hz;exact hz.symm
   subst hyz;clear hy hz hb hb2;have i1:(0:Int)<=(k:Int):=by omega
   have i2:(k:Int)<(n:Int):=by omega
   go_upto_region 6 with (fail)
   go_region_held3 (fun X=>X.cell? ⟨b,off+k,none⟩=some (.string ⟨z.toArray⟩)/\X.cell? ⟨b2,off2+k,none⟩=some (.string ⟨z.toArray⟩)) (go_keep) (fail)
   all_goals
    go_wp2_with fail
    exact⟨⟨k+1,by omega,by simp,HB.out.drew⟩,by simp[intOf];omega⟩
  ·obtain rfl:k=n:=by omega
   go_wp2_with fail
   first|go_ret|skip
   exact⟨rfl,HB.out⟩
end
section
open Go.RowKit Go.Shelf
end
end Go.Proofs.YtokjnjdbnabchaaGreatDoor
