/- . -/
import Derived.Test.YtpnncoinlopndaaGreatDoorQGMp26
import Derived.Test.YtpnncoinlopndaaGreatDoorQGMp46
import Derived.StillTail
set_option maxRecDepth 100000
set_option maxHeartbeats 4000000
namespace Go.Proofs.YtpnncoinlopndaaGreatDoor
open Go.Lib renaming hid→jq
open Go.RowKit Go.Shelf
section
section
variable {w W W':World} {bs:List (Nat×Array Value×TypeId)} {p:Nat} {cs:Array Value} {T:TypeId}
theorem Own.neBlk{α:Type}{enc:α->List Value}{k base:Nat}{e:TypeId}{x:Value}{xs:List α}(h:Own enc k e W base x xs)(hb:BlkB W p cs T)(hne:e≠T):x.ownBlock≠some p:=by
 rcases h.2 with ⟨rfl,_⟩|⟨g,cap,cur,rfl,_,hg,_⟩
 ·simp[Value.ownBlock]
 ·intro hh;simp only[Value.ownBlock,Option.some.injEq] at hh;subst hh;unfold BlkB at hb;rw[hg] at hb;injection hb with hb;injection hb with _ ht;exact hne ht
theorem Own.farB{α:Type}{enc:α->List Value}{k base:Nat}{e:TypeId}{x:Value}{xs:List α}(h:Own enc k e W base x xs)(hb:BlkB W p cs T)(hne:e≠T)(j:Nat)(u:Value):Own enc k e (W.setCell ⟨p,j,none⟩ u) base x xs:=h.far (h.neBlk hb hne) u
theorem Own.farR{α:Type}{enc:α->List Value}{k base:Nat}{e:TypeId}{x:Value}{xs:List α}(h:Own enc k e W base x xs)(hb:BlkB W p cs T)(hne:e≠T)(ds:Array Value):Own enc k e (W.setRow p ds) base x xs:=by
 refine World.ownsRow.kept h (row:=some p) ⟨rfl,rfl,rfl,by simp[World.setRow],fun i _ hi=>setRow_other W p i ds (fun e=>hi (by rw[e]))⟩ (.inr (h.neBlk hb hne))
theorem Kp.row(h:Kp w bs W)(i:Nat)(hb:bs[i]?=some (p,cs,T))(ds:Array Value):Kp w (bs.set i (p,ds,T)) (W.setRow p ds):=by
 have hbl:Below w.1.size W (W.setRow p ds):=⟨rfl,rfl,rfl,by simp[World.setRow],fun k hk=>setRow_other W p k ds (by have:=h.old i hb;omega)⟩
 have hm:(bs.set i (p,ds,T)).map (·.1)=bs.map (·.1):=by
  refine List.ext_getElem? fun k=> ?_
  rw[List.getElem?_map,List.getElem?_map,List.getElem?_set]
  split
  ·rename_i e
   subst e;rw[hb]
   split
   ·rfl
   ·rename_i e2;exact absurd (List.getElem?_eq_some_iff.1 hb).1 e2
  ·rfl
 refine⟨h.pow,h.bl.trans hbl,?_,by rw[hm];exact h.ord,?_⟩
 ·intro b hx
  rcases List.mem_or_eq_of_mem_set hx with hx|rfl
  ·exact h.own b hx
  ·exact h.old i hb
 ·intro b hx;obtain⟨k,hk⟩:=List.getElem?_of_mem hx
  rw[List.getElem?_set] at hk
  split at hk
  ·split at hk
   ·injection hk with hk;subst hk;exact(h.at_ i hb).row ds
   ·cases hk
  ·rename_i hik
   obtain⟨q,es,U⟩:=b
   exact(h.at_ k hk).farRow (h.ne k i hk hb (fun e=>hik e.symm)) ds
structure Pr (w:World) (Ao:Option Addr) (N co:Nat) (old:List Lot) (A1:Option Addr) (c1:Nat) (qs:List (List UInt8)) (A2:Option Addr) (c2:Nat) (ks:List (List UInt8)) (bs:List (Nat×Array Value×TypeId)) (W:World):Prop where
 k:Kp w bs W
 o:Own L7 7 54 W w.1.size (.slice Ao N co) old
 q:Own S1 1 24 W w.1.size (.slice A1 N c1) qs
 c:Own S1 1 24 W w.1.size (.slice A2 N c2) ks
variable {Ao A1 A2:Option Addr} {N co c1 c2:Nat} {old:List Lot} {qs ks:List (List UInt8)}
theorem Pr.here(h:Pr w Ao N co old A1 c1 qs A2 c2 ks bs W)(hb:Below W.1.size W W'):Pr w Ao N co old A1 c1 qs A2 c2 ks bs W':=⟨h.k.here hb,h.o.below hb,h.q.below hb,h.c.below hb⟩
theorem Pr.drew(h:Pr w Ao N co old A1 c1 qs A2 c2 ks bs W):Pr w Ao N co old A1 c1 qs A2 c2 ks bs W.drew:=h.here (Below.refl _ _).drew
theorem Pr.new(h:Pr w Ao N co old A1 c1 qs A2 c2 ks bs W)(p:Nat)(hp:p=W.1.size)(cs:Array Value)(T:TypeId):Pr w Ao N co old A1 c1 qs A2 c2 ks ((p,cs,T)::bs) (W.alloc (.cells cs T)):=
 ⟨h.k.new p hp cs T,h.o.alloc _,h.q.alloc _,h.c.alloc _⟩
theorem Pr.add(h:Pr w Ao N co old A1 c1 qs A2 c2 ks bs W)(hb:Below W.1.size W W')(p:Nat)(hp:W.1.size<=p)(hB:BlkB W' p cs T):Pr w Ao N co old A1 c1 qs A2 c2 ks ((p,cs,T)::bs) W':=by
 have h':=h.here hb;refine⟨⟨h'.k.pow,h'.k.bl,?_,?_,?_⟩,h'.o,h'.q,h'.c⟩
 ·intro b hx
  rcases List.mem_cons.1 hx with rfl|hx
  ·exact Nat.le_trans h.k.bl.size hp
  ·exact h'.k.own b hx
 ·refine .cons (fun b hx=> ?_) h'.k.ord;obtain⟨x,hy,rfl⟩:=List.mem_map.1 hx
  have:=(h.k.blk x hy).lt
  intro e;have e':p=x.1:=e;omega
 ·intro b hx
  rcases List.mem_cons.1 hx with rfl|hx
  ·exact hB
  ·exact h'.k.blk b hx
theorem Pr.set(h:Pr w Ao N co old A1 c1 qs A2 c2 ks bs W)(i j:Nat)(hb:bs[i]?=some (p,cs,T))(h1:54≠T)(h2:24≠T)(v:Value):Pr w Ao N co old A1 c1 qs A2 c2 ks (bs.set i (p,cs.setIfInBounds j v,T)) (W.setCell ⟨p,j,none⟩ v):=
 ⟨h.k.set i j hb v,h.o.farB (h.k.at_ i hb) h1 j v,h.q.farB (h.k.at_ i hb) h2 j v,h.c.farB (h.k.at_ i hb) h2 j v⟩
theorem Pr.row(h:Pr w Ao N co old A1 c1 qs A2 c2 ks bs W)(i:Nat)(hb:bs[i]?=some (p,cs,T))(h1:54≠T)(h2:24≠T)(ds:Array Value):Pr w Ao N co old A1 c1 qs A2 c2 ks (bs.set i (p,ds,T)) (W.setRow p ds):=
 ⟨h.k.row i hb ds,h.o.farR (h.k.at_ i hb) h1 ds,h.q.farR (h.k.at_ i hb) h2 ds,h.c.farR (h.k.at_ i hb) h2 ds⟩
end
def ZdD(m:Mp)(ls:List Lot)(w:World)(e:Ending)(w':World):Prop:=
 ∃v pn pm pf pp,e=.returned (.agg (Xc v))/\v.m=m/\PlM w' w'.1.size v (Qe (Qb ls m.inst) m) (Qb ls m.inst) pn pm pf pp/\Below w.1.size w w'
theorem Yq{W:World}{p n:Nat}{l:List Int}(h:BlkB W p (Qo l n n) 24)(hn:l.length=n):XA W W.1.size (some ⟨p,0,none⟩) n (l.map Qa):=by
 refine⟨by rw[List.length_map,hn],fun _=>⟨p,0,rfl,h.lt,fun j z hj k u hk=> ?_⟩⟩;obtain⟨hj1,hj2⟩:=List.getElem?_eq_some_iff.1 hj
 rw[List.length_map] at hj1;have hk0:k=0:=by have:=(List.getElem?_eq_some_iff.1 hk).1;rw[Xx] at this;omega
 subst hk0;have hu:u=.string ⟨z.toArray⟩:=by simpa[S1,S] using hk.symm
 have hz:z=Qa (l.getD j 0):=by
  rw[<-hj2,List.getElem_map,List.getD_eq_getElem?_getD,List.getElem?_eq_getElem hj1];rfl
 rw[hu,hz,Nat.zero_add,Nat.mul_one,Nat.add_zero];exact h.cell j (by rw[QQ _ _ _ _ (by omega),if_pos (by omega)])
end
section
def Zcj(s:Stp):Array Value:=#[.string ⟨s.cause.toArray⟩,.string ⟨s.src.toArray⟩,.string ⟨s.dst.toArray⟩,.string ⟨s.q.toArray⟩,.string ⟨s.made.toArray⟩,.string ⟨s.cost.toArray⟩]
theorem Zit(s:Stp):(Zcj s).toList=[s].flatMap S6:=rfl
def Zaw(pO base:Nat)(A1:Option Addr)(n c1:Nat)(xs:List Stp)(W:World)(e:Ending)(w':World):Prop:=
 (∃v,e=.returned v)/\∃A2 c2,Box w' pO 32 (.slice A2 xs.length c2)/\Own S6 6 80 w' base (.slice A2 xs.length c2) xs/\w'.os=W.os/\w'.tape=W.tape/\w'.output=W.output/\W.1.size<=w'.1.size/\∀b,b<W.1.size->b≠pO->some b≠(Value.slice A1 n c1).ownBlock->w'.heap[b]?=W.heap[b]?
theorem Zgx{s:Stp}(h:¬(s.q=[]/\s.made=[]/\s.cost=[])):Ye s=[s]:=if_neg h
theorem Ziu{s:Stp}(h:s.q=[]/\s.made=[]/\s.cost=[]):Ye s=[]:=if_pos h
theorem Zgy(s:Stp)(pO base c1:Nat)(A1:Option Addr)(xs:List Stp)(W:World)(hB:Box W pO 32 (.slice A1 xs.length c1))(ho:Own S6 6 80 W base (.slice A1 xs.length c1) xs)(hl:xs.length<=100000)(hb:base<=W.1.size):
 Calls Tryz.prog 82 (#[.agg (Zcj s)]++#[.pointer (some ⟨pO,0,none⟩)]) W (Zaw pO base A1 xs.length c1 (xs++Ye s) W):=by
 have HPO:=jq (show Zaw pO base A1 xs.length c1 (xs++Ye s) W=fun e w'=>(∃v,e=.returned v)/\∃A2 c2,Box w' pO 32 (.slice A2 (xs++Ye s).length c2)/\Own S6 6 80 w' base (.slice A2 (xs++Ye s).length c2) (xs++Ye s)/\w'.os=W.os/\w'.tape=W.tape/\w'.output=W.output/\W.1.size<=w'.1.size/\∀b,b<W.1.size->b≠pO->some b≠(Value.slice A1 xs.length c1).ownBlock->w'.heap[b]?=W.heap[b]? from rfl);generalize Zaw pO base A1 xs.length c1 (xs++Ye s) W=post at*;have bx:=hB.cell;have hlt:pO<W.1.size:=hB.lt;have hne:pO≠W.1.size:=by omega
 have HA:=jq ((hB.alloc (.cells (Zcj s) 80)));have HO:=jq ((ho.alloc (.cells (Zcj s) 80)));have HB0:=jq hB;have HO0:=jq ho;have hsl:=Sl.lit (enc:=S6) (k:=6) (W.alloc (.cells (Zcj s) 80)) (Zcj s) 80 [s] (Zit s) Zcb;simp only[World.size_alloc] at hsl;have HSL:=jq hsl;clear hsl;have HLE:=jq (show xs.length+1<=100000000000 by omega);have HBB:=jq hb;have HS1:=jq (Zgx (s:=s));have HS0:=jq (Ziu (s:=s));clear hB ho hl hb;have HSC:=jq (show Zcj s=#[.string ⟨s.cause.toArray⟩,.string ⟨s.src.toArray⟩,.string ⟨s.dst.toArray⟩,.string ⟨s.q.toArray⟩,.string ⟨s.made.toArray⟩,.string ⟨s.cost.toArray⟩] from rfl)
 have hcase:(s.q.isEmpty=true/\s.made.isEmpty=true/\s.cost.isEmpty=true)\/(s.q.isEmpty=false)\/(s.q.isEmpty=true/\s.made.isEmpty=false)\/(s.q.isEmpty=true/\s.made.isEmpty=true/\s.cost.isEmpty=false):=by
  cases s.q.isEmpty<;>cases s.made.isEmpty<;>cases s.cost.isEmpty<;>simp
 rw[HSC.out] at HA HO HSL;rw[HSC.out];clear HSC
 rcases hcase with ⟨h1,h2,h3⟩|hy
 ·have HXS:=jq (show xs++Ye s=xs by rw[HS0.out ⟨List.isEmpty_iff.1 h1,List.isEmpty_iff.1 h2,List.isEmpty_iff.1 h3⟩,List.append_nil])
  have g1:(s.q==[])=true:=by rw[<-h1];cases s.q<;>rfl
  have g2:(s.made==[])=true:=by rw[<-h2];cases s.made<;>rfl
  have g3:(s.cost==[])=true:=by rw[<-h3];cases s.cost<;>rfl
  go_enter Tryz.func82,Tryz.ntmps82
  go_wp2
  refine bodyPost_ret (results_none rfl _ _ _) rfl ?_;rw[HPO.out,HXS.out];exact⟨⟨_,rfl⟩,A1,c1,HA.out,HO.out,rfl,rfl,rfl,by simp,fun b hb _ _=>Below.heap_alloc W _ b hb⟩
 ·have HXS:=jq (show xs++Ye s=xs++[s] by
   rw[HS1.out];rintro⟨e1,e2,e3⟩;rw[e1,e2,e3] at hy;simp at hy)
  have HX2:=jq (HA.out.alloc (.cells #[.string ⟨s.cause.toArray⟩,.string ⟨s.src.toArray⟩,.string ⟨s.dst.toArray⟩,.string ⟨s.q.toArray⟩,.string ⟨s.made.toArray⟩,.string ⟨s.cost.toArray⟩] 80));have HO2:=jq (HO.out.alloc (.cells #[.string ⟨s.cause.toArray⟩,.string ⟨s.src.toArray⟩,.string ⟨s.dst.toArray⟩,.string ⟨s.q.toArray⟩,.string ⟨s.made.toArray⟩,.string ⟨s.cost.toArray⟩] 80));have hsz:(W.alloc (.cells #[.string ⟨s.cause.toArray⟩,.string ⟨s.src.toArray⟩,.string ⟨s.dst.toArray⟩,.string ⟨s.q.toArray⟩,.string ⟨s.made.toArray⟩,.string ⟨s.cost.toArray⟩] 80)).heap.size=W.1.size+1:=by simp
  have HS2:=jq hsz;clear hsz;have HAL:Hid (∀b,b<W.1.size->((W.alloc (.cells #[.string ⟨s.cause.toArray⟩,.string ⟨s.src.toArray⟩,.string ⟨s.dst.toArray⟩,.string ⟨s.q.toArray⟩,.string ⟨s.made.toArray⟩,.string ⟨s.cost.toArray⟩] 80)).alloc (.cells #[.string ⟨s.cause.toArray⟩,.string ⟨s.src.toArray⟩,.string ⟨s.dst.toArray⟩,.string ⟨s.q.toArray⟩,.string ⟨s.made.toArray⟩,.string ⟨s.cost.toArray⟩] 80)).heap[b]?=W.heap[b]?):=jq (fun b hb=>(Below.heap_alloc _ _ b (by simp;omega)).trans (Below.heap_alloc W _ b hb));have HB3:=jq (show base<=((W.alloc (.cells #[.string ⟨s.cause.toArray⟩,.string ⟨s.src.toArray⟩,.string ⟨s.dst.toArray⟩,.string ⟨s.q.toArray⟩,.string ⟨s.made.toArray⟩,.string ⟨s.cost.toArray⟩] 80)).alloc (.cells #[.string ⟨s.cause.toArray⟩,.string ⟨s.src.toArray⟩,.string ⟨s.dst.toArray⟩,.string ⟨s.q.toArray⟩,.string ⟨s.made.toArray⟩,.string ⟨s.cost.toArray⟩] 80)).heap.size by have:=HBB.out;simp;omega)
  rcases hy with h1|⟨h1,h2⟩|⟨h1,h2,h3⟩
  all_goals
   first
    |(have g1:(s.q==[])=true:=by rw[<-h1];cases s.q<;>rfl)
    |(have g1:(s.q==[])=false:=by rw[<-h1];cases s.q<;>rfl)
   first
    |(have g2:(s.made==[])=true:=by rw[<-h2];cases s.made<;>rfl)
    |(have g2:(s.made==[])=false:=by rw[<-h2];cases s.made<;>rfl)
    |skip
   first
    |(have g3:(s.cost==[])=false:=by rw[<-h3];cases s.cost<;>rfl)
    |skip
   go_enter Tryz.func82,Tryz.ntmps82
   go_wp2_with (at_builtin;refine Qt _ rfl (.tmp 16) (.tmp 18) _ rfl ZeC Zcb Zio (base:=base) (.slice A1 xs.length c1) xs rfl HO2.out _ _ 1 1 [s] rfl HSL.out HLE.out HB3.out ?_
                intro A2 c2 w2 ho2 hg2 hat2;have hb2:=HX2.out.grown hg2 (HO2.out.neBox HX2.out (by decide));have cb2:=hb2.cell;have fb2:=hb2.frozen)
   refine bodyPost_ret (results_none rfl _ _ _) rfl ?_;rw[HPO.out,HXS.out,List.length_append];exact⟨⟨_,rfl⟩,A2,c2,hb2.set_ _,ho2.far (fun h=>ho2.neBox hb2 (by decide) h.symm) _,hg2.os,hg2.tape,hg2.output,by have:=hg2.size;have:=HS2.out;simp at *; omega,fun b hb h1 h2=>(Below.heap_setCell _ _ _ _ h1).trans ((hg2.block b (by simp;omega) h2).trans (HAL.out b hb))⟩
end
section
structure Kp3 (p q:Nat) (A B:World):Prop where
 os:B.os=A.os
 tape:B.tape=A.tape
 output:B.output=A.output
 size:A.1.size<=B.1.size
 blk:∀b,b<A.1.size->b≠p->b≠q->B.heap[b]?=A.heap[b]?
section
variable {p q:Nat} {A B C:World}
theorem Kp3.refl(p q:Nat)(A:World):Kp3 p q A A:=⟨rfl,rfl,rfl,Nat.le_refl _,fun _ _ _ _=>rfl⟩
theorem Kp3.below(h:Kp3 p q A B)(hb:Below B.1.size B C):Kp3 p q A C:=⟨hb.os.trans h.os,hb.tape.trans h.tape,hb.output.trans h.output,Nat.le_trans h.size hb.size,fun b hA h1 h2=>(hb.block b (Nat.lt_of_lt_of_le hA h.size)).trans (h.blk b hA h1 h2)⟩
theorem Kp3.alloc(h:Kp3 p q A B)(o:Obj):Kp3 p q A (B.alloc o):=h.below ((Below.refl _ _).alloc (Nat.le_refl _) _)
theorem Kp3.drew(h:Kp3 p q A B):Kp3 p q A B.drew:=h.below (Below.refl _ _).drew
theorem Kp3.set2(h:Kp3 p q A B)(j:Nat)(u:Value):Kp3 p q A (B.setCell ⟨q,j,none⟩ u):=⟨h.os,h.tape,h.output,by simp;exact h.size,fun b hA h1 h2=>(Below.heap_setCell B ⟨q,j,none⟩ u b h2).trans (h.blk b hA h1 h2)⟩
theorem Kp3.add(h:Kp3 p q A B){own:Option Nat}(h1:C.os=B.os)(h2:C.tape=B.tape)(h3:C.output=B.output)(h4:B.1.size<=C.1.size)(h5:∀b,b<B.1.size->b≠p->some b≠own->C.heap[b]?=B.heap[b]?)(ho:∀g,own=some g->A.1.size<=g):Kp3 p q A C:=
 ⟨h1.trans h.os,h2.trans h.tape,h3.trans h.output,Nat.le_trans h.size h4,fun b hA hp hq=>(h5 b (Nat.lt_of_lt_of_le hA h.size) hp (fun e=>by have:=ho b e.symm;omega)).trans (h.blk b hA hp hq)⟩
theorem Kp3.under{w:World}{N:Nat}(h:Kp3 p q A B)(hb:Below N w A)(hN:N<=A.1.size)(hp:N<=p)(hq:N<=q):Below N w B:=
 ⟨h.os.trans hb.os,h.tape.trans hb.tape,h.output.trans hb.output,Nat.le_trans hb.size h.size,fun b hb'=>(h.blk b (by omega) (by omega) (by omega)).trans (hb.block b hb')⟩
theorem Kp3.blkB{b:Nat}{cs:Array Value}{T:TypeId}(h:Kp3 p q A B)(hb:BlkB A b cs T)(h1:b≠p)(h2:b≠q):BlkB B b cs T:=(h.blk b hb.lt h1 h2).trans hb
theorem Kp3.box{b:Nat}{v:Value}{T:TypeId}(h:Kp3 p q A B)(hb:Box A b T v)(h1:b≠p)(h2:b≠q):Box B b T v:=(h.blk b hb.lt h1 h2).trans hb
theorem Kp3.pl{n₀ pn pm pf pp:Nat}{v:PlV}{x:Plan}{old:List Lot}(h:Kp3 p q A B)(hM:PlM A n₀ v x old pn pm pf pp)(hn:n₀<=A.1.size)(h1:n₀<=p)(h2:n₀<=q):PlM B n₀ v x old pn pm pf pp:=
 hM.kept hn (fun b hb=>h.blk b (by omega) (by omega) (by omega))
end
end
section
theorem Zeb{P:Program}{id:Nat}{Q:Exit->Act->World->Prop}{a:Act}{w:World}{l:List Oper}(n:Nat)(hm:P.follows .mixedOrders=true)(hB:Region.lexTailB .any l.toArray n=true)
 (h:wpStill P l.toArray w.drew (fun a'=>wpList P l.toArray Q (l.drop n) a' w.drew) (l.take n) a):(Code.region id l.toArray true).wp P Q a w:=wp_region_still_tail n hm hB h
theorem Zm2{α:Type}{enc:α->List Value}{k base p:Nat}{e T:TypeId}{v u0 u1 u2 u3:Value}{xs:List α}{W:World}{cs:Array Value}(h:Own enc k e W base v xs)(hb:BlkB W p cs T)(hT:e≠T):
 Own enc k e ((((W.setCell ⟨p,0,none⟩ u0).setCell ⟨p,1,none⟩ u1).setCell ⟨p,2,none⟩ u2).setCell ⟨p,3,none⟩ u3) base v xs:=
 have b1:=hb.set 0 u0;have b2:=b1.set 1 u1;have b3:=b2.set 2 u2
 (((h.farB hb hT 0 u0).farB b1 hT 1 u1).farB b2 hT 2 u2).farB b3 hT 3 u3
section
variable {P:Program} {ops:Array Oper} {Q:Exit->Act->World->Prop} {md:Region.Mode} {S:World->Prop} {z:Nat}
def Yc(P:Program)(md:Region.Mode)(ops:Array Oper)(Q:Exit->Act->World->Prop)(S:World->Prop)(z:Nat):Nat->Array Bool->Act->World->Prop
 |0,listed,a,w=>Region.ready md ops listed=[]/\Q .normal a w
 |fuel+1,listed,a,w=>(Region.ready md ops listed=[]->Q .normal a w)/\
  ∀i∈Region.ready md ops listed,wpOp P ops Q i (fun a' w'=>(i≠z->S w')/\Yc P md ops Q S z fuel (listed.setIfInBounds i true) a' w') a w
theorem ZdJ:∀(fuel:Nat) (listed:Array Bool) (a:Act) (w:World),Yc P md ops Q S z fuel listed a w->wpAny P md ops Q fuel listed a w
 |0,_,_,_,h=>h
 |fuel+1,_,_,_,h=>⟨h.1,fun i hi=>wpOp_mono (fun a' w' h'=>ZdJ fuel _ a' w' h'.2) (h.2 i hi)⟩
def Zfk(md:Region.Mode)(ops:Array Oper)(z i:Nat):Bool:=match ops[z]? with
 |some o=>o.after.any (fun e=>Region.binds md e&&e.on==i)
 |none=>true
theorem ZnR{i:Nat}{listed:Array Bool}(h:Zfk md ops z i=true)(hi:listed.getD i true=false):z ∉ Region.ready md ops listed:=fun hz=>by
 obtain⟨_,o,ho,hall⟩:=mem_ready.1 hz
 unfold Zfk at h;rw[ho] at h;obtain⟨e,he,h2⟩:=Array.any_eq_true'.1 h
 rw[Bool.and_eq_true,beq_iff_eq] at h2;have h3:=hall e he h2.1;rw[h2.2] at h3
 rcases Nat.lt_or_ge i listed.size with h'|h'
 ·simp[h'] at hi h3;rw[hi] at h3;cases h3
 ·simp[Array.getElem?_eq_none h'] at h3
theorem Zfl{i:Nat}{oi:Oper}{v:Value}(hi:ops[i]?=some oi)(hsel:∀(j:Nat) (o:Oper) cs b,ops[j]?=some o->o.op≠ .select cs b)
 (hQ:∀c a w,Q (.panic c) (a.put oi.dst v) w->Q (.panic c) a w) (hz:Zfk md ops z i=true):
 ∀(fuel:Nat) (listed:Array Bool) (a:Act) (w:World),
  (∀j oj,ops[j]?=some oj->j≠i->listed.getD j true=false->(∀e∈oj.after,Region.binds md e=true->e.on≠i)->oi.apart ops oj=true)->
  i∈Region.ready md ops listed->YieldsIf P ops S oi v a->S w->
  Yc P md ops Q S z fuel (listed.setIfInBounds i true) (a.put oi.dst v) w->Yc P md ops Q S z (fuel+1) listed a w:=by
 intro fuel
 induction fuel with
 |zero=>
  intro listed a w _ hr hy hS H;refine⟨fun h=>(by rw[h] at hr;cases hr),fun j hj=> ?_⟩
  by_cases hji:j=i
  ·subst hji;exact hy.wpOp hi hS ⟨fun _=>hS,H⟩
  ·have:=ready_mono hj hji
   rw[H.1] at this
   cases this
 |succ fuel ih=>
  intro listed a w hfree hr hy hS H;refine⟨fun h=>(by rw[h] at hr;cases hr),fun j hj=> ?_⟩
  by_cases hji:j=i
  ·subst hji;exact hy.wpOp hi hS ⟨fun _=>hS,H⟩
  ·have h1:=H.2 j (ready_mono hj hji);obtain⟨hjun,oj,hoj,hall⟩:=mem_ready.1 hj
   have hjz:j≠z:=fun e=>ZnR hz (mem_ready.1 hr).1 (e▸hj)
   have hnot:∀e∈oj.after,Region.binds md e=true->e.on≠i:=fun e he hb heq=>by
    have h1:=hall e he hb;have h0:=(mem_ready.1 hr).1;rw[heq] at h1
    rcases Nat.lt_or_ge i listed.size with h'|h'
    ·simp[h'] at h0 h1;rw[h0] at h1;cases h1
    ·simp[Array.getElem?_eq_none h'] at h1
   have h2:=wpOp_putIf hoj (hfree j oj hoj hji hjun hnot) (fun cs b=>hsel i oi cs b hi) (fun cs b=>hsel j oj cs b hoj) hQ hy h1
   have hfree':∀k ok,ops[k]?=some ok->k≠i->(listed.setIfInBounds j true).getD k true=false->
    (∀e∈ok.after,Region.binds md e=true->e.on≠i)->oi.apart ops ok=true:=fun k ok hk hki hun hno=>by
    refine hfree k ok hk hki ?_ hno
    by_cases hjk:j=k
    ·subst hjk;exact hjun
    ·rw[getD_set_ne true hjk] at hun;exact hun
   refine wpOp_mono (fun a' w' h3=>⟨h3.2.1,ih (listed.setIfInBounds j true) a' w' hfree' (ready_mono hr (Ne.symm hji)) h3.1 (h3.2.1 hjz) ?_⟩) h2;rw[Array.setIfInBounds_comm _ _ hji];exact h3.2.2
def Zix(md:Region.Mode)(ops:Array Oper)(z:Nat)(listed:Array Bool)(i:Nat):Bool:=
 Region.noSelect ops&&Region.free md ops listed i&&(Region.ready md ops listed).contains i&&Zfk md ops z i
theorem VW{i:Nat}{oi:Oper}{v:Value}{fuel:Nat}{listed:Array Bool}{a:Act}{w:World}(hi:ops.toList[i]?=some oi)(hB:Zix md ops z listed i=true)
 (hQ:∀c a w,Q (.panic c) (a.put oi.dst v) w->Q (.panic c) a w) (hg:Region.wanted oi (yielded ops a.tmps)=true) (hy:∀w,S w->(execOp a.eval oi).run P w=.ok (.value v) w) (hS:S w)
 (h:Yc P md ops Q S z fuel (listed.setIfInBounds i true) (a.put oi.dst v) w):Yc P md ops Q S z (fuel+1) listed a w:=by
 simp only[Zix,Bool.and_eq_true] at hB;obtain⟨⟨⟨hs,hf⟩,hr⟩,hw⟩:=hB
 have hi':ops[i]?=some oi:=by rw[<-Array.getElem?_toList];exact hi
 exact Zfl hi' (Region.noSelect_spec hs) hQ hw fuel listed a w (Region.free_spec hi' hf) (by simpa using hr) (.inl ⟨hg,hy⟩) hS h
def li(n k:Nat):Array Bool:=((List.range n).map fun j=>decide (j<k)).toArray
theorem Zme(n:Nat):li n 0=Array.replicate n false:=by
 apply Array.ext_getElem?
 intro i;unfold li
 by_cases h:i<n
 ·simp[h]
 ·simp[h]
theorem Zmf(n k:Nat):(li n k).setIfInBounds k true=li n (k+1):=by
 apply Array.ext_getElem?
 intro i;unfold li;rw[Array.getElem?_setIfInBounds]
 by_cases h:i<n
 ·by_cases e:k=i
  ·subst e;simp[h]
  ·have h2:(i<k+1)=(i<k):=by rw[eq_iff_iff];omega
   simp[h,e,h2]
 ·by_cases e:k=i
  ·subst e;simp[h]
  ·simp[h,e]
theorem ZgF{n k:Nat}{oi:Oper}{v:Value}{fuel:Nat}{a:Act}{w:World}(hi:ops.toList[k]?=some oi)(hB:Zix md ops z (li n k) k=true)
 (hQ:∀c a w,Q (.panic c) (a.put oi.dst v) w->Q (.panic c) a w) (hg:Region.wanted oi (yielded ops a.tmps)=true) (hy:∀w,S w->(execOp a.eval oi).run P w=.ok (.value v) w) (hS:S w)
 (h:Yc P md ops Q S z fuel (li n (k+1)) (a.put oi.dst v) w):Yc P md ops Q S z (fuel+1) (li n k) a w:=VW hi hB hQ hg hy hS (by rw[Zmf];exact h)
theorem YL{i:Nat}{o:Oper}{fuel:Nat}{listed:Array Bool}{a:Act}{w:World}(hr:Region.ready md ops listed=[i])(ho:ops.toList[i]?=some o)
 (h:∀K':Act->World->Prop,Shut (∀a w,(i≠z->S w)->Yc P md ops Q S z fuel (listed.setIfInBounds i true) a w->K' a w)->if Region.wanted o (yielded ops a.tmps)=true then Oper.wp P o a w K' Q else K' (a.put o.dst undef) w):
 Yc P md ops Q S z (fuel+1) listed a w:=by
 refine⟨fun h0=>(by rw[h0] at hr;cases hr),fun j hj=> ?_⟩;rw[hr,List.mem_singleton] at hj;subst hj;have ho':ops[j]?=some o:=by rw[<-Array.getElem?_toList];exact ho
 exact wpOp_step ho' (fun K' hK=>h K' (fun a w hS hW=>hK a w ⟨hS,hW⟩))
theorem ZcD{listed:Array Bool}{a:Act}{w:World}(hr:Region.ready md ops listed=[])(h:Q .normal a w):∀fuel,Yc P md ops Q S z fuel listed a w
 |0=>⟨hr,h⟩
 |_+1=>⟨fun _=>h,by rw[hr];simp⟩
theorem ZgG{id:Nat}{a:Act}{w:World}(z:Nat)(S:World->Prop)(hm:P.follows .mixedOrders=true)(h:Yc P .any ops Q S z ops.size (li ops.size 0) a w.drew):(Code.region id ops true).wp P Q a w:=
 wp_region_any hm (ZdJ _ _ _ _ (by rw[Zme] at h;exact h))
def Zk7(ops:Array Oper)(z m:Nat):Bool:=(List.range m).all fun k=>Zix .any ops z (li ops.size k) k
theorem ZbQ{m k:Nat}{oi:Oper}{v:Value}{fuel:Nat}{a:Act}{w:World}(hT:Hid (Zk7 ops z m=true))(hi:ops.toList[k]?=some oi)(hk:k<m)
 (hQ:∀c a w,Q (.panic c) (a.put oi.dst v) w->Q (.panic c) a w) (hg:Region.wanted oi (yielded ops a.tmps)=true) (hy:∀w,S w->(execOp a.eval oi).run P w=.ok (.value v) w) (hS:S w)
 (h:Yc P .any ops Q S z fuel (li ops.size (k+1)) (a.put oi.dst v) w):Yc P .any ops Q S z (fuel+1) (li ops.size k) a w:=
 ZgF hi (List.all_eq_true.1 hT.out k (List.mem_range.2 hk)) hQ hg hy hS h
theorem ZbR{id:Nat}{a:Act}{w:World}(z:Nat)(S:World->Prop)(m:Nat)(hm:P.follows .mixedOrders=true)(hT:Zk7 ops z m=true)(h:Hid (Zk7 ops z m=true)->Yc P .any ops Q S z ops.size (li ops.size 0) a w.drew):(Code.region id ops true).wp P Q a w:=
 ZgG z S hm (h (jq hT))
end
def ZbW(r:Nat):Code->Option Code
 | .seq a b=>match a with
   | .region id ops d=>if id=r then some (.seq (.region id ops d) b) else ZbW r b
   |a=>match ZbW r a with
    |some c=>some c
    |none=>ZbW r b
 | .loop c=>ZbW r c
 | .block _ c=>ZbW r c
 | .scope c=>ZbW r c
 | .cond _ a b=>match ZbW r a with
   |some c=>some c
   |none=>ZbW r b
 |_=>none
def PostN(Q:Exit->Act->World->Prop):Exit->Act->World->Prop
 | .normal,a,w=>Q .normal a w
 |_,_,_=>False
theorem Zls{P:Program}{c:Code}{R:Exit->Act->World->Prop}{a:Act}{w:World}(h:∀Q:Exit->Act->World->Prop,Hid (∀a' w',R .normal a' w'->PostN Q .normal a' w')->c.wp P (PostN Q) a w):c.wp P R a w:=
 wp_mono (h R (jq fun _ _ h=>h)) fun e _ _ h=>by
  cases e<;>first|exact h|exact absurd h id
def ZgH:Code->List (Nat×Array Oper)
 | .region id ops _=>[(id,ops)]
 | .loop c=>ZgH c
 | .seq a b=>ZgH a++ZgH b
 | .block _ c=>ZgH c
 | .scope c=>ZgH c
 | .cond _ a b=>ZgH a++ZgH b
 |_=>[]
end
section
theorem ZmB(old:List Lot):Qw (old.map (·.q))=(old.map fun y=>val y.q).sum:=by unfold Qw;rw[List.map_map];rfl
theorem ZmC(old:List Lot):Qw (old.map (·.c))=(old.map fun y=>val y.c).sum:=by unfold Qw;rw[List.map_map];rfl
theorem ZmD(old:List Lot):(old.map (·.q)).map val=old.map fun y=>val y.q:=by rw[List.map_map];rfl
theorem Zny(old:List Lot):(old.map (·.c)).map val=old.map fun y=>val y.c:=by rw[List.map_map];rfl
theorem Zmg(l:List Int):(l.map Qa).map val=l:=by
 rw[List.map_map];have:(val ∘ Qa)=id:=by funext x;exact Qc x
 rw[this,List.map_id]
def Gv1(r:Value)(W:World)(e:Ending)(w':World):Prop:=e=.returned r/\Below W.1.size W w'
structure PrC (N:Nat) (m:Mp) (qs ks:List (List UInt8)) (xn xm xf xp:List Int) (tsq tsk tpt tmv tfr tcs:List UInt8) (fsq fex fpt fsk fmv fcs:Fr):Prop where
 c1:∀W A c,Env W->XA W W.1.size A N qs->Calls Tryz.prog 65 #[.slice A N c] W (Gv1 (.string ⟨tsq.toArray⟩) W)
 c2:∀W,Env W->Calls Tryz.prog 60 #[.string ⟨tsq.toArray⟩] W (Gv1 (.agg #[.string ⟨fsq.n.toArray⟩,.string ⟨fsq.d.toArray⟩]) W)
 c3:∀W,Env W->Calls Tryz.prog 55 #[.agg #[.string ⟨fsq.n.toArray⟩,.string ⟨fsq.d.toArray⟩],.agg #[.string ⟨m.ratio.n.toArray⟩,.string ⟨m.ratio.d.toArray⟩]] W (Gv1 (.agg #[.string ⟨fex.n.toArray⟩,.string ⟨fex.d.toArray⟩]) W)
 c4:∀W,Env W->Calls Tryz.prog 59 #[.agg #[.string ⟨fex.n.toArray⟩,.string ⟨fex.d.toArray⟩]] W (Gv1 (.tuple #[.string ⟨tpt.toArray⟩,.agg #[.string ⟨fpt.n.toArray⟩,.string ⟨fpt.d.toArray⟩]]) W)
 c5:∀W A c,Env W->XA W W.1.size A N ks->Calls Tryz.prog 65 #[.slice A N c] W (Gv1 (.string ⟨tsk.toArray⟩) W)
 c6:∀W,Env W->Calls Tryz.prog 60 #[.string ⟨tsk.toArray⟩] W (Gv1 (.agg #[.string ⟨fsk.n.toArray⟩,.string ⟨fsk.d.toArray⟩]) W)
 c7:∀W,Env W->Calls Tryz.prog 55 #[.agg #[.string ⟨m.share.n.toArray⟩,.string ⟨m.share.d.toArray⟩],.agg #[.string ⟨fsk.n.toArray⟩,.string ⟨fsk.d.toArray⟩]] W (Gv1 (.agg #[.string ⟨fmv.n.toArray⟩,.string ⟨fmv.d.toArray⟩]) W)
 c8:∀W,Env W->Calls Tryz.prog 73 #[.agg #[.string ⟨fmv.n.toArray⟩,.string ⟨fmv.d.toArray⟩]] W (Gv1 (.string ⟨tmv.toArray⟩) W)
 c9:∀W A c,Env W->XA W W.1.size A N qs->Calls Tryz.prog 74 #[.string ⟨tpt.toArray⟩,.slice A N c] W (Xo xn N W)
 c10:∀W A c,Env W->XA W W.1.size A N ks->Calls Tryz.prog 74 #[.string ⟨tmv.toArray⟩,.slice A N c] W (Xo xm N W)
 c11:∀W (v:PlV),Env W->v.parts=tpt->v.part=fpt->Calls Tryz.prog 75 #[.agg (Xc v),.string ⟨tmv.toArray⟩,.agg #[.string ⟨fex.n.toArray⟩,.string ⟨fex.d.toArray⟩]] W (Gv1 (.string ⟨tfr.toArray⟩) W)
 c12:∀W P,Env W->BlkB W P (Qo xm N N) 24->Calls Tryz.prog 74 #[.string ⟨tfr.toArray⟩,.slice (some ⟨P,0,none⟩) N N] W (Xo xf N W)
 c13:∀W,Env W->Calls Tryz.prog 55 #[.agg #[.string ⟨fpt.n.toArray⟩,.string ⟨fpt.d.toArray⟩],.agg #[.string ⟨m.price.n.toArray⟩,.string ⟨m.price.d.toArray⟩]] W (Gv1 (.agg #[.string ⟨fcs.n.toArray⟩,.string ⟨fcs.d.toArray⟩]) W)
 c14:∀W,Env W->Calls Tryz.prog 73 #[.agg #[.string ⟨fcs.n.toArray⟩,.string ⟨fcs.d.toArray⟩]] W (Gv1 (.string ⟨tcs.toArray⟩) W)
 c15:∀W A c,Env W->XA W W.1.size A N qs->Calls Tryz.prog 74 #[.string ⟨tcs.toArray⟩,.slice A N c] W (Xo xp N W)
theorem ZgI{k:Int}{K:Nat}(h:k.natAbs<10^K):(Qf ((k:Int):Rat)).Sz (K+1):=by
 rw[Jv];exact⟨Qd h,by simp⟩
theorem Zmh{old:List Lot}{m:Mp}{L:Nat}(hok:∀y∈old,y.Ok)(hm:m.Ok)(hlo:old.length<=1000)(hL:L<=100)(hL1:1<=L)(hq:∀y∈old,y.q.length<=L)(hc:∀y∈old,y.c.length<=L)
 (hr:m.ratio.Sz L) (hsh:m.share.Sz L) (hpr:m.price.Sz L):
 PrC old.length m (old.map (·.q)) (old.map (·.c)) (Qe old m).n (Qe old m).m (Qe old m).f (Qe old m).p
  (Qa (Qw (old.map (·.q)))) (Qa (Qw (old.map (·.c)))) (Qa (Qe old m).parts) (Qa (Qe old m).moved) (Qa (Qe old m).taken) (Qa (Qe old m).cash)
  (Qf ((Qw (old.map (·.q)):Int):Rat)) (Qf (Qe old m).exact) (Qf (Qe old m).part) (Qf ((Qw (old.map (·.c)):Int):Rat)) (Qf (m.share.rat*((Qw (old.map (·.c)):Int):Rat))) (Qf ((Qe old m).part*m.price.rat)):=by
 have hK:=ZbC hok hm hlo hL1 hq hc hr hpr;have hpo:=Jt hok hm;obtain⟨l1,l2,l3,l4⟩:=Xn old m
 obtain⟨nq,nc⟩:=YJ hok
 have hsq:(Qw (old.map (·.q))).natAbs<10^(L+4):=by rw[ZmB];exact Za4 (fun y hy=>Qz (hq y hy)) hlo
 have hsc:(Qw (old.map (·.c))).natAbs<10^(L+4):=by rw[ZmC];exact Za4 (fun y hy=>Qz (hc y hy)) hlo
 have z1:=ZgI hsq;have z2:=ZgI hsc;have lq:∀x∈old.map (·.q),x.length<=L:=fun x hx=>by obtain⟨y,hy,rfl⟩:=List.mem_map.1 hx;exact hq y hy
 have lc:∀x∈old.map (·.c),x.length<=L:=fun x hx=>by obtain⟨y,hy,rfl⟩:=List.mem_map.1 hx;exact hc y hy
 have q0:∀x∈old.map (·.q),0<=val x:=fun x hx=>by obtain⟨y,hy,rfl⟩:=List.mem_map.1 hx;have:=(hok y hy).q0;omega
 have c0:∀x∈old.map (·.c),0<=val x:=fun x hx=>by obtain⟨y,hy,rfl⟩:=List.mem_map.1 hx;exact(hok y hy).c0
 have qc:∀x∈old.map (·.q),QJ x=true:=fun x hx=>by obtain⟨y,hy,rfl⟩:=List.mem_map.1 hx;exact(hok y hy).q
 have cc:∀x∈old.map (·.c),QJ x=true:=fun x hx=>by obtain⟨y,hy,rfl⟩:=List.mem_map.1 hx;exact(hok y hy).c
 have hex:(Qe old m).exact=((Qw (old.map (·.q)):Int):Rat)*m.ratio.rat:=by rw[ZmB];exact hpo.ex
 have hmv:(Qe old m).moved=JY (m.share.rat*((Qw (old.map (·.c)):Int):Rat)):=by rw[ZmC];rfl
 have hca:(Qe old m).cash=JY ((Qe old m).part*m.price.rat):=rfl;have hpt:(Qe old m).parts=QK (Qe old m).exact:=rfl;have hpa':(Qe old m).part=(Qe old m).exact-(((Qe old m).parts:Int):Rat):=rfl;have htk:(Qe old m).taken=Zdi (Qe old m).exact (Qe old m).moved:=rfl;have hn:(Qe old m).n=Yg (Qe old m).parts ((old.map (·.q)).map val):=by rw[ZmD];rfl
 have hmm:(Qe old m).m=Yg (Qe old m).moved ((old.map (·.c)).map val):=by rw[Zny];rfl
 have hf:(Qe old m).f=Yg (Qe old m).taken (((Qe old m).m.map Qa).map val):=by rw[Zmg];rfl
 have hp:(Qe old m).p=Yg (Qe old m).cash ((old.map (·.q)).map val):=by rw[ZmD];rfl
 have mnn:∀x∈(Qe old m).m,0<=x:=XH hpo.moved0 nc;have hp0:=hpo.parts0;have hm0:=hpo.moved0;have ht0:=hpo.taken0;have hc0:=hpo.cash0;have he0:=hpo.exact0;have ez:=QF hK.ex;have pz:=QF hK.part
 have mz:(Qf (m.share.rat*((Qw (old.map (·.c)):Int):Rat))).Sz (2*L+20):=by
  have:=QF (JO ((Zae hsh hL1).more (show L<=L+4 by omega)) (JP hsc (by omega)))
  exact this.more (by omega)
 have cz:(Qf ((Qe old m).part*m.price.rat)).Sz (10*L+90):=by
  have:=QF (JO hK.part ((Zae hpr hL1).more (show L<=4*L+40 by omega)))
  exact this.more (by omega)
 have lpt:=Qd hK.parts;have lmv:=Qd hK.moved;have ltk:=Qd hK.taken;have lca:=Qd hK.cash;have lsq:=Qd hsq;have lsc:=Qd hsc;have hKm:=hK.m;generalize Qe old m=x at*;generalize hsqe:Qw (old.map (·.q))=sq at*;generalize hsce:Qw (old.map (·.c))=sc at*;have hml:(x.m.map Qa).length=old.length:=by rw[List.length_map];exact l2
 refine⟨?_,?_,?_,?_,?_,?_,?_,?_,?_,?_,?_,?_,?_,?_,?_⟩
 ·intro W A c hW hS;have h:=Zf3 A old.length c _ W hW hS (fun x hx=>Nat.le_trans (lq x hx) (by omega)) (by omega);rw[hsqe] at h;exact h
 ·intro W hW;have h:=Zbo (Qa sq) W hW.pow (by omega);rw[Qc] at h;exact h
 ·intro W hW;have h:=Zbm (Qf (sq:Rat)) m.ratio W hW.pow (z1.more (by omega)) (hr.more (by omega));rw[Qj,<-hex] at h;exact h
 ·intro W hW;have h:=Zhj (Qf x.exact) (ez.more (by omega)) W hW;rw[Qj,<-hpt,<-hpa'] at h;exact h
 ·intro W A c hW hS;have h:=Zf3 A old.length c _ W hW hS (fun x hx=>Nat.le_trans (lc x hx) (by omega)) (by omega);rw[hsce] at h;exact h
 ·intro W hW;have h:=Zbo (Qa sc) W hW.pow (by omega);rw[Qc] at h;exact h
 ·intro W hW;have h:=Zbm m.share (Qf (sc:Rat)) W hW.pow (hsh.more (by omega)) (z2.more (by omega));rw[Qj] at h;exact h
 ·intro W hW;have h:=Zby (Qf (m.share.rat*(sc:Rat))) (mz.more (by omega)) W hW;rw[Qj,<-hmv] at h;exact h
 ·intro W A c hW hS;have h:=VS (Qa x.parts) A old.length c _ W hW hS (by omega) (fun x hx=>Nat.le_trans (lq x hx) (by omega)) hlo (by rw[Qc]) (by rw[Qc];exact hp0) q0 qc;rw[Qc,<-hn] at h;exact h
 ·intro W A c hW hS;have h:=VS (Qa x.moved) A old.length c _ W hW hS (by omega) (fun x hx=>Nat.le_trans (lc x hx) (by omega)) hlo (by rw[Qc]) (by rw[Qc];exact hm0) c0 cc;rw[Qc,<-hmm] at h;exact h
 ·intro W v hW h1 h2;have h:=Zhm v x.exact x.moved W (K:=4*L+40) (by omega) (by omega) hW hK.ex hK.moved he0 (by rw[h1,<-hpt]) (by rw[h2,hpa',hpt]);rw[YA,<-htk] at h;exact h
 ·intro W P hW hB
  have h:=VS (Qa x.taken) (some ⟨P,0,none⟩) old.length old.length (x.m.map Qa) W hW (Yq hB l2) (by omega) (fun t ht=>by
   obtain⟨i,hi⟩:=List.getElem?_of_mem ht
   rw[List.getElem?_map] at hi
   cases hx:x.m[i]? with
   |none=>rw[hx] at hi;cases hi
   |some z=>
    rw[hx] at hi;have hi:Qa z=t:=Option.some.inj hi;rw[<-hi,<-YB hx];have:=Qd (hKm i)
    omega) hlo (by rw[Qc]) (by rw[Qc];exact ht0) (fun t ht=>by obtain⟨z,hz,rfl⟩:=List.mem_map.1 ht;rw[Qc];exact mnn z hz) (fun t ht=>by obtain⟨z,hz,rfl⟩:=List.mem_map.1 ht;exact Ys z)
  rw[Qc,<-hf] at h;exact h
 ·intro W hW;have h:=Zbm (Qf x.part) m.price W hW.pow (pz.more (by omega)) (hpr.more (by omega));rw[Qj] at h;exact h
 ·intro W hW;have h:=Zby (Qf (x.part*m.price.rat)) (cz.more (by omega)) W hW;rw[Qj,<-hca] at h;exact h
 ·intro W A c hW hS;have h:=VS (Qa x.cash) A old.length c _ W hW hS (by omega) (fun x hx=>Nat.le_trans (lq x hx) (by omega)) hlo (by rw[Qc]) (by rw[Qc];exact hc0) q0 qc;rw[Qc,<-hp] at h;exact h
end
end Go.Proofs.YtpnncoinlopndaaGreatDoor
