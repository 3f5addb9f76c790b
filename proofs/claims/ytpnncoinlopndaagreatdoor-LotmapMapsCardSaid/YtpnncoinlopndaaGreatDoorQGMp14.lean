/- . -/
import Derived.Test.YtpnncoinlopndaaGreatDoorQGMp13
import Derived.Test.YtpnncoinlopndaaGreatDoorQGMp17
namespace Go.Proofs.YtpnncoinlopndaaGreatDoor
open Go.RowKit Go.Shelf
section
structure Mr (B N:Nat) (Ao An Am Af Ap:Option Addr) (old:List Lot) (x:Plan) (W:World):Prop where
 s:B<=W.1.size
 o:QU W B Ao N old
 n:XA W B An N (x.n.map Qa)
 m:XA W B Am N (x.m.map Qa)
 f:XA W B Af N (x.f.map Qa)
 p:XA W B Ap N (x.p.map Qa)
section
variable {B N:Nat} {Ao An Am Af Ap:Option Addr} {old:List Lot} {x:Plan} {W V:World}
theorem Mr.step(h:Mr B N Ao An Am Af Ap old x W)(hb:Below B W V):Mr B N Ao An Am Af Ap old x V:=
 ⟨Nat.le_trans h.s hb.size,h.o.below hb,h.n.below hb,h.m.below hb,h.f.below hb,h.p.below hb⟩
theorem VV{A:Option Addr}{l:List Int}{k:Nat}(h:XA W B A N (l.map Qa))(hk:k<N):
 ∃b off,A=some ⟨b,off,none⟩/\∀V,XA V B A N (l.map Qa)->V.cell? ⟨b,off+k,none⟩=some (.string ⟨(Qa (l.getD k 0)).toArray⟩):=by
 obtain⟨b,off,_,hA,_,_,_⟩:=h.st hk
 refine⟨b,off,hA,fun V hV=> ?_⟩;obtain⟨b2,off2,z,hA2,_,hz,hc⟩:=hV.st hk
 rw[hA] at hA2;injection hA2 with e;injection e with e1 e2;subst e1;subst e2
 rw[hc];rw[List.getElem?_map,Option.map_eq_some_iff] at hz;obtain⟨a,ha,rfl⟩:=hz
 rw[YB ha]
theorem Ziv{A:Option Addr}{l:List Lot}{k:Nat}(h:QU W B A N l)(hk:k<N):
 ∃b off y,A=some ⟨b,off,none⟩/\l[k]?=some y/\∀V,QU V B A N l->V.cell? ⟨b,off+k*7,none⟩=some (.string ⟨y.id.toArray⟩)/\V.cell? ⟨b,off+k*7+1,none⟩=some (.string ⟨y.inst.toArray⟩)/\V.cell? ⟨b,off+k*7+2,none⟩=some (.int .i64 y.acq)/\V.cell? ⟨b,off+k*7+3,none⟩=some (.int .i64 y.opn)/\V.cell? ⟨b,off+k*7+4,none⟩=some (.string ⟨y.q.toArray⟩)/\V.cell? ⟨b,off+k*7+5,none⟩=some (.string ⟨y.c.toArray⟩)/\V.cell? ⟨b,off+k*7+6,none⟩=some (.string ⟨y.u.toArray⟩):=by
 obtain⟨b,off,y,hA,_,hy,_⟩:=h.lot7 hk
 refine⟨b,off,y,hA,hy,fun V hV=> ?_⟩;obtain⟨b2,off2,z,hA2,_,hz,d0,d1,d2,d3,d4,d5,d6⟩:=hV.lot7 hk
 rw[hA] at hA2;injection hA2 with e;injection e with e1 e2;subst e1;subst e2
 rw[hy] at hz;injection hz with hz;subst hz;exact⟨d0,d1,d2,d3,d4,d5,d6⟩
end
end
section
structure Rs (w:World) (B B3 B6 N n1 c1:Nat) (A1 Ao An Am Af Ap:Option Addr) (old:List Lot) (x:Plan) (made:List Lot) (bs:List (Nat×Array Value×TypeId)) (W:World):Prop where
 k:Kp w bs W
 m:Mr B N Ao An Am Af Ap old x W
 d:Own L7 7 54 W B3 (.slice A1 n1 c1) made
 s:B6<=W.1.size
 wb:w.1.size<=B6
 bb:B<=B6
 o:∀b∈bs,b.1<B6
 e:∀g,(Value.slice A1 n1 c1).ownBlock=some g->g<B6
section
variable {w W V:World} {B B3 B6 N n1 c1 p:Nat} {A1 Ao An Am Af Ap:Option Addr} {old made:List Lot} {x:Plan} {bs:List (Nat×Array Value×TypeId)} {cs:Array Value} {T:TypeId} {row:Option Nat}
theorem Rs.below(h:Rs w B B3 B6 N n1 c1 A1 Ao An Am Af Ap old x made bs W)(hb:Below W.1.size W V):Rs w B B3 B6 N n1 c1 A1 Ao An Am Af Ap old x made bs V:=
 ⟨h.k.here hb,h.m.step (hb.mono h.m.s),h.d.below hb,Nat.le_trans h.s hb.size,h.wb,h.bb,h.o,h.e⟩
theorem Rs.drew(h:Rs w B B3 B6 N n1 c1 A1 Ao An Am Af Ap old x made bs W):Rs w B B3 B6 N n1 c1 A1 Ao An Am Af Ap old x made bs W.drew:=h.below (Below.refl _ W).drew
theorem Rs.alloc(h:Rs w B B3 B6 N n1 c1 A1 Ao An Am Af Ap old x made bs W)(o:Obj):Rs w B B3 B6 N n1 c1 A1 Ao An Am Af Ap old x made bs (W.alloc o):=h.below ((Below.refl _ W).alloc (Nat.le_refl _) o)
theorem Rs.app(h:Rs w B B3 B6 N n1 c1 A1 Ao An Am Af Ap old x made bs W)(hg:W.grownBy V row)(hr:∀g,row=some g->B6<=g):Rs w B B3 B6 N n1 c1 A1 Ao An Am Af Ap old x made bs V:=
 ⟨⟨h.k.pow,Qm h.k.bl hg h.k.bl.size (fun g hg=>Nat.le_trans h.wb (hr g hg)),h.k.own,h.k.ord,fun b hb=>(hg.block b.1 (h.k.blk b hb).lt (fun e=>by have:=hr _ e.symm;have:=h.o b hb;omega)).trans (h.k.blk b hb)⟩,
  h.m.step ⟨hg.os,hg.tape,hg.output,hg.size,fun b hb=>hg.block b (by have:=h.m.s;omega) (fun e=>by have:=hr _ e.symm;have:=h.bb;omega)⟩,
  h.d.grown hg (by
   cases ho:(Value.slice A1 n1 c1).ownBlock with
   |none=>exact .inl rfl
   |some g=>exact .inr (fun e=>by have:=hr g e.symm;have:=h.e g ho;omega)),
  Nat.le_trans h.s hg.size,h.wb,h.bb,h.o,h.e⟩
theorem Rs.set{i:Nat}(h:Rs w B B3 B6 N n1 c1 A1 Ao An Am Af Ap old x made bs W)(hb:bs[i]?=some (p,cs,T))(hT:54≠T)(hp:B<=p)(j:Nat)(u:Value):Rs w B B3 B6 N n1 c1 A1 Ao An Am Af Ap old x made (bs.set i (p,cs.setIfInBounds j u,T)) (W.setCell ⟨p,j,none⟩ u):=
 ⟨h.k.set i j hb u,h.m.step ((Below.refl _ W).setCell hp u),h.d.farB (h.k.at_ i hb) hT j u,by simp;exact h.s,h.wb,h.bb,fun b hm=>by
  rcases List.mem_or_eq_of_mem_set hm with hm|rfl
  ·exact h.o b hm
  ·exact h.o (p,cs,T) (List.mem_of_getElem? hb),h.e⟩
theorem Zfi{α:Type}{enc:α->List Value}{k base:Nat}{e:TypeId}{v:Value}{xs:List α}(h:Own enc k e W base v xs)(hb:B6<=base):∀g,v.ownBlock=some g->B6<=g:=by
 obtain⟨A',c',_,_,_,_,h4⟩:=h.form
 exact fun g hg=>Nat.le_trans hb (h4 g hg).2.1
end
theorem ZkZ(l:List Lot)(z:Lot):(XG l z).length=l.length+1:=by
 unfold XG;have:=Zf5 l z.inst
 simp
 omega
theorem Zk0(zs:List Lot):∀l,(zs.foldl XG l).length=l.length+zs.length:=by
 induction zs with
 |nil=>intro l;rfl
 |cons z zs ih=>intro l;rw[List.foldl_cons,ih,ZkZ,List.length_cons];omega
end
section
structure R5 (w:World) (B B3 B8 N n1 c1:Nat) (A1 Ao An Am Af Ap:Option Addr) (old:List Lot) (x:Plan) (made:List Lot) (bs:List (Nat×Array Value×TypeId)) (vl:Value) (lots:List Lot) (vg:Value) (gs:List Gain) (vt:Value) (ts:List Stp) (W:World):Prop where
 r:Rs w B B3 B8 N n1 c1 A1 Ao An Am Af Ap old x made bs W
 l:Own L7 7 54 W w.1.size vl lots
 le:∀g,vl.ownBlock=some g->g<B8
 g:Own G10 10 57 W B8 vg gs
 t:Own S6 6 80 W B8 vt ts
section
variable {w W V:World} {B B3 B8 N n1 c1 p:Nat} {A1 Ao An Am Af Ap:Option Addr} {old made lots:List Lot} {x:Plan} {bs:List (Nat×Array Value×TypeId)} {cs:Array Value} {vl vg vt u:Value} {gs gs':List Gain} {ts ts':List Stp}
theorem R5.below(h:R5 w B B3 B8 N n1 c1 A1 Ao An Am Af Ap old x made bs vl lots vg gs vt ts W)(hb:Below W.1.size W V):R5 w B B3 B8 N n1 c1 A1 Ao An Am Af Ap old x made bs vl lots vg gs vt ts V:=⟨h.r.below hb,h.l.below hb,h.le,h.g.below hb,h.t.below hb⟩
theorem ZgB{v:Value}{row:Option Nat}(h:∀g,v.ownBlock=some g->g<B8)(hr:∀g,row=some g->B8<=g):v.ownBlock=none\/v.ownBlock≠row:=by
 cases ho:v.ownBlock with
 |none=>exact .inl rfl
 |some g=>exact .inr (fun e=>by have:=hr g e.symm;have:=h g ho;omega)
theorem R5.app6(h:R5 w B B3 B8 N n1 c1 A1 Ao An Am Af Ap old x made bs vl lots vg gs vt ts W)(hg:W.grownBy V vt.ownBlock)(ho:Own S6 6 80 V B8 u ts'):R5 w B B3 B8 N n1 c1 A1 Ao An Am Af Ap old x made bs vl lots vg gs u ts' V:=
 have hr:=Zfi h.t (Nat.le_refl _)
 ⟨h.r.app hg hr,h.l.grown hg (ZgB h.le hr),h.le,h.g.grown hg (h.g.ne h.t (by decide)),ho⟩
theorem R5.app10(h:R5 w B B3 B8 N n1 c1 A1 Ao An Am Af Ap old x made bs vl lots vg gs vt ts W)(hg:W.grownBy V vg.ownBlock)(ho:Own G10 10 57 V B8 u gs'):R5 w B B3 B8 N n1 c1 A1 Ao An Am Af Ap old x made bs vl lots u gs' vt ts V:=
 have hr:=Zfi h.g (Nat.le_refl _)
 ⟨h.r.app hg hr,h.l.grown hg (ZgB h.le hr),h.le,ho,h.t.grown hg (h.t.ne h.g (by decide))⟩
theorem R5.set(h:R5 w B B3 B8 N n1 c1 A1 Ao An Am Af Ap old x made bs vl lots vg gs vt ts W)(hb:bs[0]?=some (p,cs,35))(hp:B<=p)(j:Nat)(u:Value):R5 w B B3 B8 N n1 c1 A1 Ao An Am Af Ap old x made (bs.set 0 (p,cs.setIfInBounds j u,35)) vl lots vg gs vt ts (W.setCell ⟨p,j,none⟩ u):=
 have hk:=h.r.k.at_ 0 hb
 ⟨h.r.set hb (by decide) hp j u,h.l.farB hk (by decide) j u,h.le,h.g.farB hk (by decide) j u,h.t.farB hk (by decide) j u⟩
theorem Rs.up(h:Rs w B B3 B8 N n1 c1 A1 Ao An Am Af Ap old x made bs W):Rs w B B3 W.1.size N n1 c1 A1 Ao An Am Af Ap old x made bs W:=
 ⟨h.k,h.m,h.d,Nat.le_refl _,Nat.le_trans h.wb h.s,Nat.le_trans h.bb h.s,fun b hb=>Nat.lt_of_lt_of_le (h.o b hb) h.s,fun g hg=>Nat.lt_of_lt_of_le (h.e g hg) h.s⟩
theorem R5.alloc(h:R5 w B B3 B8 N n1 c1 A1 Ao An Am Af Ap old x made bs vl lots vg gs vt ts W)(o:Obj):R5 w B B3 B8 N n1 c1 A1 Ao An Am Af Ap old x made bs vl lots vg gs vt ts (W.alloc o):=h.below ((Below.refl _ W).alloc (Nat.le_refl _) o)
theorem R5.drew(h:R5 w B B3 B8 N n1 c1 A1 Ao An Am Af Ap old x made bs vl lots vg gs vt ts W):R5 w B B3 B8 N n1 c1 A1 Ao An Am Af Ap old x made bs vl lots vg gs vt ts W.drew:=h.below (Below.refl _ W).drew
end
theorem Zk1(n:Int):(n=0/\(Qa n==[])=true/\(Qa n).isEmpty=true)\/(n≠0/\(Qa n==[])=false/\(Qa n).isEmpty=false):=by
 by_cases h:n=0
 ·have h1:(Qa n==[])=true:=by rw[XB];exact decide_eq_true h
  exact .inl ⟨h,h1,by rw[XQ];exact h1⟩
 ·have h1:(Qa n==[])=false:=by rw[XB];exact decide_eq_false h
  exact .inr ⟨h,h1,by rw[XQ];exact h1⟩
def Vo(m:Mp)(x:Plan)(old:List Lot)(k:Nat):List Gain:=if x.part=0 then[] else QT m x old k
theorem Zk2(m:Mp)(x:Plan)(old:List Lot)(k:Nat):(Vo m x old k).length<=k:=by
 unfold Vo
 split
 ·exact Nat.zero_le _
 ·exact Za7 m x old k
theorem ZeG(m:Mp)(x:Plan)(old:List Lot)(k:Nat):(QW m x old k).length<=2*k:=by
 induction k with
 |zero=>simp[QW]
 |succ k ih=>
  cases h:old[k]? with
  |some y=>
   rw[ZdG h,List.length_append];have:=Zdr m x k y
   omega
  |none=>
   unfold QW at ih ⊢;rw[List.range_succ,List.flatMap_append];simp only[List.flatMap_cons,List.flatMap_nil,List.append_nil,h];omega
end
end Go.Proofs.YtpnncoinlopndaaGreatDoor
