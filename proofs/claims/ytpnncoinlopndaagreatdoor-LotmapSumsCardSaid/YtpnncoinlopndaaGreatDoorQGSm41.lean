/- Nu, Eq7, AwP, Awk. -/
import Derived.Test.YtpnncoinlopndaaGreatDoorQGSm40
set_option maxRecDepth 100000
set_option maxHeartbeats 4000000
namespace Go.Proofs.YtpnncoinlopndaaGreatDoor
open Go.Lib renaming hid→hdz
section
open Go.RowKit Go.Shelf
attribute [local go_sem ↓] Go.wp_at_zero Go.wp_at_succ
end
section
open Go.RowKit Go.Shelf
attribute [local go_sem ↓] Go.wp_at_zero Go.wp_at_succ
theorem Zhi(A A':Option Addr)(n c c':Nat)(xs:List Lot)(w:World)(h1:Lots w w.heap.size A n xs)(h2:Lots w w.heap.size A' n xs)(hn:n≤1000000):
 Calls Tryz.prog 23 #[.slice A n c,.slice A' n c'] w fun e w'=>e=.returned (.bool true)∧Below w.heap.size w w':=by
 have H1:=hdz h1;have H2:=hdz h2
 clear h1 h2
 have hne:((n:Int) !=(n:Int))=false:=by simp
 go_enter Tryz.func23,Tryz.ntmps23
 go_wp2_with fail
 go_loopw [5,13] (fun _ j wr=>∃k:Nat,k≤n∧j=.int .i64 k∧Hid (Below w.heap.size w wr)) (fun _ j _=>n-(intOf j).toNat)
 case atStart=>exact⟨0,Nat.zero_le _,rfl,Below.refl _ _⟩
 case round=>
  obtain⟨k,hk,rfl,HB⟩:=hrel
  by_cases hlt:k<n
  ·obtain⟨b,off,y,rfl,hb,hy,d0,d1,d2,d3,d4,d5,d6⟩:=(H1.out.here HB.out).lot7 hlt
   obtain⟨b2,off2,z,rfl,hb2,hz,e0,e1,e2,e3,e4,e5,e6⟩:=(H2.out.here HB.out).lot7 hlt
   have hyz:z=y:=by rw[hy] at hz;injection hz with hz;exact hz.symm
   subst hyz
   clear hy hz hb hb2
   have i1:(0:Int)≤(k:Int):=by omega
   have i2:(k:Int)<(n:Int):=by omega
   go_upto_region 6 with (fail)
   go_region_held3 (fun X=>X.cell? ⟨b,off+k*7,none⟩=some (.string ⟨z.id.toArray⟩)∧X.cell? ⟨b,off+k*7+1,none⟩=some (.string ⟨z.inst.toArray⟩)∧X.cell? ⟨b,off+k*7+2,none⟩=some (.int .i64 z.acq)∧X.cell? ⟨b,off+k*7+3,none⟩=some (.int .i64 z.opn)∧X.cell? ⟨b,off+k*7+4,none⟩=some (.string ⟨z.q.toArray⟩)∧X.cell? ⟨b,off+k*7+5,none⟩=some (.string ⟨z.c.toArray⟩)∧X.cell? ⟨b,off+k*7+6,none⟩=some (.string ⟨z.u.toArray⟩)∧X.cell? ⟨b2,off2+k*7,none⟩=some (.string ⟨z.id.toArray⟩)∧X.cell? ⟨b2,off2+k*7+1,none⟩=some (.string ⟨z.inst.toArray⟩)∧X.cell? ⟨b2,off2+k*7+2,none⟩=some (.int .i64 z.acq)∧X.cell? ⟨b2,off2+k*7+3,none⟩=some (.int .i64 z.opn)∧X.cell? ⟨b2,off2+k*7+4,none⟩=some (.string ⟨z.q.toArray⟩)∧X.cell? ⟨b2,off2+k*7+5,none⟩=some (.string ⟨z.c.toArray⟩)∧X.cell? ⟨b2,off2+k*7+6,none⟩=some (.string ⟨z.u.toArray⟩)) (go_keep) (fail)
   all_goals
    go_wp2_with fail
    exact⟨⟨k+1,by omega,by simp,HB.out.drew⟩,by simp[intOf];omega⟩
  ·obtain rfl:k=n:=by omega
   go_wp2_with fail
   first|go_ret|skip
   exact⟨rfl,HB.out⟩
end
section
open Go.RowKit Go.Shelf
theorem Zbq{n:Nat}{l:List UInt8}(h1:l.all isDig=true)(h2:∀b t,l=b::t→(b==48)=false)(h3:valD l=n):txtL (n:Int)=l:=by
 rw[Za2,←h3,Zb7 h1 h2]
theorem Zcl{b:UInt8}{t:List UInt8}(h:(b==48)=false):∀c u,b::t=c::u→(c==48)=false:=fun c u e=>by injection e with e1 _;rw[←e1];exact h
def l0:List Lot:=[⟨[97,47,49],[97,98,99],1,2,[49,48],[49,48,48],[]⟩,⟨[98,47,49],[97,98,99],3,3,[53],[56,48],[]⟩]
def m0:Mp:=⟨[120],9,[97,98,99],[100,101,102],⟨[49],[50]⟩,⟨[49],[]⟩,⟨[57],[]⟩,false⟩
def P0:Plan:={exact:=15/2,parts:=7,part:=1/2,moved:=180,taken:=12,cash:=4,n:=[5,2],m:=[100,80],f:=[7,5],p:=[3,1]}
def r0:List Lot:=[⟨[120,47,49],[100,101,102],1,2,[53],[57,51],[53]⟩,⟨[120,47,50],[100,101,102],3,3,[50],[55,53],[50]⟩]
def g0:List Gain:=[⟨[120],[97,47,49],[100,101,102],1,9,[],[51],[55],[],[]⟩,⟨[120],[98,47,49],[100,101,102],3,9,[],[49],[53],[],[]⟩]
theorem t1:txtL 1=[49]:=Zbq (n:=1) (by decide) (Zcl (by decide)) (by decide)
theorem t2:txtL 2=[50]:=Zbq (n:=2) (by decide) (Zcl (by decide)) (by decide)
theorem t3:txtL 3=[51]:=Zbq (n:=3) (by decide) (Zcl (by decide)) (by decide)
theorem t5:txtL 5=[53]:=Zbq (n:=5) (by decide) (Zcl (by decide)) (by decide)
theorem t7:txtL 7=[55]:=Zbq (n:=7) (by decide) (Zcl (by decide)) (by decide)
theorem t9:txtL 9=[57]:=Zbq (n:=9) (by decide) (Zcl (by decide)) (by decide)
theorem t10:txtL 10=[49,48]:=Zbq (n:=10) (by decide) (Zcl (by decide)) (by decide)
theorem t75:txtL 75=[55,53]:=Zbq (n:=75) (by decide) (Zcl (by decide)) (by decide)
theorem t80:txtL 80=[56,48]:=Zbq (n:=80) (by decide) (Zcl (by decide)) (by decide)
theorem t93:txtL 93=[57,51]:=Zbq (n:=93) (by decide) (Zcl (by decide)) (by decide)
theorem Zn9:txtL 100=[49,48,48]:=Zbq (n:=100) (by decide) (Zcl (by decide)) (by decide)
theorem d1_:digs 1=[49]:=by rw[←t1];exact(Za2 1).symm
theorem d2_:digs 2=[50]:=by rw[←t2];exact(Za2 2).symm
theorem up2{t a b:Int}(h:befB (restL t [a,b]) 0 1=true):upL t [a,b]=[0,1].take (missL t [a,b]).toNat:=by
 unfold upL ordL
 rw[show(restL t [a,b]).length=2 from rfl,show List.range 2=[0,1] from rfl,List.mergeSort_of_pairwise (by simpa using h)]
theorem p1:posL 7 [10,5]=[5,2]:=by unfold posL;rw[up2 (by decide)];decide
theorem p2:posL 180 [100,80]=[100,80]:=by unfold posL;rw[up2 (by decide)];decide
theorem p3:posL 12 [100,80]=[7,5]:=by unfold posL;rw[up2 (by decide)];decide
theorem p4:posL 4 [10,5]=[3,1]:=by unfold posL;rw[up2 (by decide)];decide
theorem Znb:planL l0 m0=P0:=by
 have hr:m0.ratio.rat=1/2:=by decide+kernel
 have hs:m0.share.rat=1:=by decide+kernel
 have hp:m0.price.rat=9:=by decide+kernel
 have hq:l0.map (fun x=>val x.q)=[10,5]:=by decide
 have hc:l0.map (fun x=>val x.c)=[100,80]:=by decide
 unfold planL
 simp only[hr,hs,hp,hq,hc]
 have h1:(((([10,5]:List Int).sum:Int)):Rat)*(1/2)=15/2:=by decide+kernel
 have h2:rnd (1*((([100,80]:List Int).sum:Int):Rat))=180:=by decide+kernel
 have h3:flo (15/2:Rat)=7:=by decide+kernel
 have h4:(15/2:Rat)-(((7:Int)):Rat)=1/2:=by decide+kernel
 have h5:rnd ((1/2:Rat)*9)=4:=by decide+kernel
 have h6:(if(1/2:Rat)=0 then(0:Int) else if(7:Int)=0 then 180 else shrL 180 (flr (15/2:Rat)) (15/2:Rat).num)=12:=by decide+kernel
 simp only[h1,h2,h3,h4,h5,h6]
 unfold P0 divS
 rw[if_neg (by decide),if_neg (by decide),if_neg (by decide),p1,p2,p3,p4]
 rfl
theorem ZlU:LotsOk l0∧m0.Ok:=by
 refine⟨⟨by decide,?_,by decide⟩,?_⟩
 ·intro y hy
  unfold l0 at hy
  simp only[List.mem_cons,List.mem_nil_iff,or_false] at hy
  rcases hy with rfl|rfl
  ·exact⟨by decide,by decide,by decide,by decide,by decide,by unfold canB;rw[show val [49,48]=10 by decide,t10];decide,by unfold canB;rw[show val [49,48,48]=100 by decide,Zn9];decide,by decide,by decide,.inl rfl⟩
  ·exact⟨by decide,by decide,by decide,by decide,by decide,by unfold canB;rw[show val [53]=5 by decide,t5];decide,by unfold canB;rw[show val [56,48]=80 by decide,t80];decide,by decide,by decide,.inl rfl⟩
 ·have hr:m0.ratio.rat=1/2:=by decide+kernel
  have hs:m0.share.rat=1:=by decide+kernel
  have hp:m0.price.rat=9:=by decide+kernel
  refine⟨by decide,by decide,by decide,by decide,?_,?_,?_,?_,?_,?_,?_,by decide,fun _=>hs⟩
  ·unfold Fr.ok
   rw[hr]
   unfold frOf
   rw[show(1/2:Rat).num=1 by decide+kernel,show(1/2:Rat).den=2 by decide+kernel,if_neg (by decide),t1,show((2:Nat):Int)=2 from rfl,t2]
   rfl
  ·unfold Fr.ok
   rw[hs]
   unfold frOf
   rw[show(1:Rat).num=1 by decide+kernel,show(1:Rat).den=1 by decide+kernel,if_pos rfl,t1]
   rfl
  ·unfold Fr.ok
   rw[hp]
   unfold frOf
   rw[show(9:Rat).num=9 by decide+kernel,show(9:Rat).den=1 by decide+kernel,if_pos rfl,t9]
   rfl
  ·rw[hr];decide+kernel
  ·rw[hs];decide+kernel
  ·rw[hs];decide+kernel
  ·rw[hp];decide+kernel
theorem Znc:madeL m0 P0 l0=r0:=by
 have e:madeL m0 P0 l0=[newL m0 P0 2 0 l0[0],newL m0 P0 2 1 l0[1]]:=rfl
 rw[e]
 unfold newL newId
 rw[show cntN P0.n 0=0 by decide,show cntN P0.n 1=1 by decide,show P0.n.getD 0 0=5 from rfl,show P0.n.getD 1 0=2 from rfl,show P0.mv 0=93 by decide,show P0.mv 1=75 by decide,show P0.rest 2=0 by decide]
 simp only[Nat.zero_add,Nat.reduceAdd,Int.add_zero,if_true,if_false,Nat.one_ne_zero,d1_,d2_,t5,t2,t93,t75]
 rfl
theorem ZnK:mapL l0 m0=(⟨r0,g0,stpL m0 P0 l0⟩,0):=by
 obtain⟨hl,hm⟩:=ZlU
 have ho:lotsOf l0 m0.inst=l0:=by decide
 unfold mapL
 rw[if_neg (show ¬(allC l0≠0∨mpC m0≠0) from fun h=>h.elim (fun h=>h ((ZbA _).2 hl)) (fun h=>h ((Zel _).2 hm)))]
 simp only[ho,Znb,Znc]
 rw[if_neg (by decide),if_neg (by decide)]
 have hk:keptL m0 P0.m 0 l0=[]:=by decide
 have hg:gainL m0 P0 l0=g0:=by
  unfold gainL
  rw[if_neg (show ¬P0.part=0 by decide+kernel)]
  have e:gainTo m0 P0 l0 l0.length=[⟨[120],[97,47,49],[100,101,102],1,9,[],txtL 3,txtL 7,[],[]⟩,⟨[120],[98,47,49],[100,101,102],3,9,[],txtL 1,txtL 5,[],[]⟩]:=rfl
  rw[e,t3,t7,t1,t5]
  rfl
 have hno:LotsOk ([]:List Lot):=⟨by decide,fun _ h=>(by cases h),by decide⟩
 have hr:∀z∈r0,z.Ok:=by
  intro z hz
  unfold r0 at hz
  simp only[List.mem_cons,List.mem_nil_iff,or_false] at hz
  rcases hz with rfl|rfl
  ·exact⟨by decide,by decide,by decide,by decide,by decide,by unfold canB;rw[show val [53]=5 by decide,t5];decide,by unfold canB;rw[show val [57,51]=93 by decide,t93];decide,by decide,by decide,.inr rfl⟩
  ·exact⟨by decide,by decide,by decide,by decide,by decide,by unfold canB;rw[show val [50]=2 by decide,t2];decide,by unfold canB;rw[show val [55,53]=75 by decide,t75];decide,by decide,by decide,.inr rfl⟩
 rw[hk,hg]
 have h:=Zim [100,101,102] r0 [] [] ⟨fun _ h=>(by cases h),.inl rfl⟩ hno (fun z hz=>⟨hr z hz,by unfold r0 at hz;simp only[List.mem_cons,List.mem_nil_iff,or_false] at hz;rcases hz with rfl|rfl<;>rfl,by simp⟩) (by decide)
 simp only[List.nil_append,List.append_nil] at h
 rw[if_pos (.inr (by decide))] at h
 rw[h]
end
section
open Go.RowKit Go.Shelf
theorem Zn0:m0.Sz 5000:=⟨by decide,by decide,by decide,⟨by decide,by decide⟩,⟨by decide,by decide⟩,⟨by decide,by decide⟩,by decide,by decide⟩
theorem Zn1:∀y∈l0,y.Sz 50000:=by
 intro y hy
 unfold l0 at hy
 simp only[List.mem_cons,List.mem_nil_iff,or_false] at hy
 rcases hy with rfl|rfl<;>exact⟨by decide,by decide,by decide,by decide,by decide,by decide,by decide,by decide,by decide⟩
theorem ZnL:MpV m0=.agg #[.string ⟨#[120]⟩,.int .i64 9,.string ⟨#[97,98,99]⟩,.string ⟨#[100,101,102]⟩,.string ⟨#[49]⟩,.string ⟨#[50]⟩,.string ⟨#[49]⟩,.string ⟨#[]⟩,.string ⟨#[57]⟩,.string ⟨#[]⟩,.bool false]:=rfl
theorem Zhj(w:World)(hp:Env w):Calls Tryz.prog 7 #[] w fun e w'=>e=.returned (.bool true)∧Below w.heap.size w w':=by
 have hls:Lots (w.alloc (.cells #[.string ⟨#[97,47,49]⟩,.string ⟨#[97,98,99]⟩,.int .i64 1,.int .i64 2,.string ⟨#[49,48]⟩,.string ⟨#[49,48,48]⟩,.string ⟨#[]⟩,.string ⟨#[98,47,49]⟩,.string ⟨#[97,98,99]⟩,.int .i64 3,.int .i64 3,.string ⟨#[53]⟩,.string ⟨#[56,48]⟩,.string ⟨#[]⟩] 54)) (w.alloc (.cells #[.string ⟨#[97,47,49]⟩,.string ⟨#[97,98,99]⟩,.int .i64 1,.int .i64 2,.string ⟨#[49,48]⟩,.string ⟨#[49,48,48]⟩,.string ⟨#[]⟩,.string ⟨#[98,47,49]⟩,.string ⟨#[97,98,99]⟩,.int .i64 3,.int .i64 3,.string ⟨#[53]⟩,.string ⟨#[56,48]⟩,.string ⟨#[]⟩] 54)).heap.size (some ⟨w.heap.size,0,none⟩) 2 l0:=
  (Sl.lit (enc:=L7) (k:=7) w #[.string ⟨#[97,47,49]⟩,.string ⟨#[97,98,99]⟩,.int .i64 1,.int .i64 2,.string ⟨#[49,48]⟩,.string ⟨#[49,48,48]⟩,.string ⟨#[]⟩,.string ⟨#[98,47,49]⟩,.string ⟨#[97,98,99]⟩,.int .i64 3,.int .i64 3,.string ⟨#[53]⟩,.string ⟨#[56,48]⟩,.string ⟨#[]⟩] 54 l0 rfl Zah).more (by simp)
 have hbA:Below w.heap.size w (w.alloc (.cells #[.string ⟨#[97,47,49]⟩,.string ⟨#[97,98,99]⟩,.int .i64 1,.int .i64 2,.string ⟨#[49,48]⟩,.string ⟨#[49,48,48]⟩,.string ⟨#[]⟩,.string ⟨#[98,47,49]⟩,.string ⟨#[97,98,99]⟩,.int .i64 3,.int .i64 3,.string ⟨#[53]⟩,.string ⟨#[56,48]⟩,.string ⟨#[]⟩] 54)):=(Below.refl _ _).alloc (Nat.le_refl _) _
 have HMP:=hdz (Zna (some ⟨w.heap.size,0,none⟩) 2 2 l0 m0 (w.alloc (.cells #[.string ⟨#[97,47,49]⟩,.string ⟨#[97,98,99]⟩,.int .i64 1,.int .i64 2,.string ⟨#[49,48]⟩,.string ⟨#[49,48,48]⟩,.string ⟨#[]⟩,.string ⟨#[98,47,49]⟩,.string ⟨#[97,98,99]⟩,.int .i64 3,.int .i64 3,.string ⟨#[53]⟩,.string ⟨#[56,48]⟩,.string ⟨#[]⟩] 54)) 10 (hp.here hbA) hls (.inr ⟨_,rfl⟩) (by decide) Zn1 (.inl Zn0) (by decide) (by decide) (by decide) (by decide) ⟨by decide,by decide⟩ ⟨by decide,by decide⟩ ⟨by decide,by decide⟩)
 rw[ZnK,ZnL] at HMP
 have HB:=hdz hbA
 have HP:=hdz hp
 clear hls hbA hp
 go_enter Tryz.func7,Tryz.ntmps7
 go_wp2_with fail
 generalize w.alloc _=W0 at*
 refine HMP.out.mono ?_
 rintro e w1 ⟨A1,c1,Ag,cg,As,cs,rfl,oL,oG,oS,hb1⟩
 have HL1:=hdz oL
 have hg0:g0.length=2:=rfl
 have hr0:r0.length=2:=rfl
 obtain⟨gb,go,x,hA,_,hx,x0,x1,x2,x3,x4,x5,x6,x7,x8,x9⟩:=(oG.sl Zfz).gain (i:=0) (by decide)
 obtain⟨gb',go',y,hA',_,hy,y0,y1,y2,y3,y4,y5,y6,y7,y8,y9⟩:=(oG.sl Zfz).gain (i:=1) (by decide)
 have ex:x=⟨[120],[97,47,49],[100,101,102],1,9,[],[51],[55],[],[]⟩:=by
  have h:g0[0]?=some ⟨[120],[97,47,49],[100,101,102],1,9,[],[51],[55],[],[]⟩:=rfl
  exact Option.some.inj (hx.symm.trans h)
 have ey:y=⟨[120],[98,47,49],[100,101,102],3,9,[],[49],[53],[],[]⟩:=by
  have h:g0[1]?=some ⟨[120],[98,47,49],[100,101,102],3,9,[],[49],[53],[],[]⟩:=rfl
  exact Option.some.inj (hy.symm.trans h)
 have hab:gb'=gb∧go'=go:=by
  rw[hA] at hA'
  injection hA' with h
  injection h with h1 h2
  exact⟨h1.symm,h2.symm⟩
 obtain⟨rfl,rfl⟩:=hab
 subst ex;subst ey;subst hA
 have hgl:gb'<w1.heap.size:=World.block_lt_of_cell? _ _ x6
 have HGX:=hdz (show ∀X,Below w1.heap.size w1 X→X.cell? ⟨gb',go'+6,none⟩=some (.string ⟨#[51]⟩)∧X.cell? ⟨gb',go'+7,none⟩=some (.string ⟨#[55]⟩)∧X.cell? ⟨gb',go'+10+6,none⟩=some (.string ⟨#[49]⟩)∧X.cell? ⟨gb',go'+10+7,none⟩=some (.string ⟨#[53]⟩) from fun X hX=>
  ⟨(hX.cell (p:=⟨gb',go'+6,none⟩) hgl).trans x6,(hX.cell (p:=⟨gb',go'+7,none⟩) hgl).trans x7,(hX.cell (p:=⟨gb',go'+10+6,none⟩) hgl).trans y6,(hX.cell (p:=⟨gb',go'+10+7,none⟩) hgl).trans y7⟩)
 clear x0 x1 x2 x3 x4 x5 x6 x7 x8 x9 y0 y1 y2 y3 y4 y5 y6 y7 y8 y9 hx hy hA' hgl
 dsimp only
 rw[hr0,hg0]
 have hb2:Below w1.heap.size w1 (((w1.alloc (.cells #[.slice A1 2 c1,.slice (some ⟨gb',go',none⟩) 2 cg,.slice As (stpL m0 P0 l0).length cs,.slice none 0 0] 35)).alloc (.cells #[.string ⟨#[120,47,49]⟩,.string ⟨#[100,101,102]⟩,.int .i64 1,.int .i64 2,.string ⟨#[53]⟩,.string ⟨#[57,51]⟩,.string ⟨#[53]⟩,.string ⟨#[120,47,50]⟩,.string ⟨#[100,101,102]⟩,.int .i64 3,.int .i64 3,.string ⟨#[50]⟩,.string ⟨#[55,53]⟩,.string ⟨#[50]⟩] 54))):=((Below.refl _ _).alloc (Nat.le_refl _) _).alloc (by simp) _
 have hrs:Lots (((w1.alloc (.cells #[.slice A1 2 c1,.slice (some ⟨gb',go',none⟩) 2 cg,.slice As (stpL m0 P0 l0).length cs,.slice none 0 0] 35)).alloc (.cells #[.string ⟨#[120,47,49]⟩,.string ⟨#[100,101,102]⟩,.int .i64 1,.int .i64 2,.string ⟨#[53]⟩,.string ⟨#[57,51]⟩,.string ⟨#[53]⟩,.string ⟨#[120,47,50]⟩,.string ⟨#[100,101,102]⟩,.int .i64 3,.int .i64 3,.string ⟨#[50]⟩,.string ⟨#[55,53]⟩,.string ⟨#[50]⟩] 54))) (((w1.alloc (.cells #[.slice A1 2 c1,.slice (some ⟨gb',go',none⟩) 2 cg,.slice As (stpL m0 P0 l0).length cs,.slice none 0 0] 35)).alloc (.cells #[.string ⟨#[120,47,49]⟩,.string ⟨#[100,101,102]⟩,.int .i64 1,.int .i64 2,.string ⟨#[53]⟩,.string ⟨#[57,51]⟩,.string ⟨#[53]⟩,.string ⟨#[120,47,50]⟩,.string ⟨#[100,101,102]⟩,.int .i64 3,.int .i64 3,.string ⟨#[50]⟩,.string ⟨#[55,53]⟩,.string ⟨#[50]⟩] 54))).heap.size (some ⟨w1.heap.size+1,0,none⟩) 2 r0:=by
  have h:=(Sl.lit (enc:=L7) (k:=7) (w1.alloc (.cells #[.slice A1 2 c1,.slice (some ⟨gb',go',none⟩) 2 cg,.slice As (stpL m0 P0 l0).length cs,.slice none 0 0] 35)) #[.string ⟨#[120,47,49]⟩,.string ⟨#[100,101,102]⟩,.int .i64 1,.int .i64 2,.string ⟨#[53]⟩,.string ⟨#[57,51]⟩,.string ⟨#[53]⟩,.string ⟨#[120,47,50]⟩,.string ⟨#[100,101,102]⟩,.int .i64 3,.int .i64 3,.string ⟨#[50]⟩,.string ⟨#[55,53]⟩,.string ⟨#[50]⟩] 54 r0 rfl Zah).more (B':=(((w1.alloc (.cells #[.slice A1 2 c1,.slice (some ⟨gb',go',none⟩) 2 cg,.slice As (stpL m0 P0 l0).length cs,.slice none 0 0] 35)).alloc (.cells #[.string ⟨#[120,47,49]⟩,.string ⟨#[100,101,102]⟩,.int .i64 1,.int .i64 2,.string ⟨#[53]⟩,.string ⟨#[57,51]⟩,.string ⟨#[53]⟩,.string ⟨#[120,47,50]⟩,.string ⟨#[100,101,102]⟩,.int .i64 3,.int .i64 3,.string ⟨#[50]⟩,.string ⟨#[55,53]⟩,.string ⟨#[50]⟩] 54))).heap.size) (by simp)
  rw[show(w1.alloc (.cells #[.slice A1 2 c1,.slice (some ⟨gb',go',none⟩) 2 cg,.slice As (stpL m0 P0 l0).length cs,.slice none 0 0] 35)).heap.size=w1.heap.size+1 by simp] at h
  exact h
 have hEQ:=hdz (Zhi A1 (some ⟨w1.heap.size+1,0,none⟩) 2 c1 2 r0 (((w1.alloc (.cells #[.slice A1 2 c1,.slice (some ⟨gb',go',none⟩) 2 cg,.slice As (stpL m0 P0 l0).length cs,.slice none 0 0] 35)).alloc (.cells #[.string ⟨#[120,47,49]⟩,.string ⟨#[100,101,102]⟩,.int .i64 1,.int .i64 2,.string ⟨#[53]⟩,.string ⟨#[57,51]⟩,.string ⟨#[53]⟩,.string ⟨#[120,47,50]⟩,.string ⟨#[100,101,102]⟩,.int .i64 3,.int .i64 3,.string ⟨#[50]⟩,.string ⟨#[55,53]⟩,.string ⟨#[50]⟩] 54))) (((HL1.out.below hb2).sl Zah)) hrs (by decide))
 have HRB:=hdz (show BlkB (((w1.alloc (.cells #[.slice A1 2 c1,.slice (some ⟨gb',go',none⟩) 2 cg,.slice As (stpL m0 P0 l0).length cs,.slice none 0 0] 35)).alloc (.cells #[.string ⟨#[120,47,49]⟩,.string ⟨#[100,101,102]⟩,.int .i64 1,.int .i64 2,.string ⟨#[53]⟩,.string ⟨#[57,51]⟩,.string ⟨#[53]⟩,.string ⟨#[120,47,50]⟩,.string ⟨#[100,101,102]⟩,.int .i64 3,.int .i64 3,.string ⟨#[50]⟩,.string ⟨#[55,53]⟩,.string ⟨#[50]⟩] 54))) w1.heap.size #[.slice A1 2 c1,.slice (some ⟨gb',go',none⟩) 2 cg,.slice As (stpL m0 P0 l0).length cs,.slice none 0 0] 35 from BlkB.alloc (heap_alloc_new w1 _) _)
 have HB2:=hdz hb2
 clear hb2 hrs oL oG oS
 go_wp2_with fail
 refine hEQ.out.mono ?_
 rintro e w3 ⟨rfl,hb3⟩
 obtain⟨k0,k1,k2,k3⟩:=HGX.out w3 (HB2.out.trans (hb3.mono HB2.out.size))
 have HR3:=hdz (HRB.out.here hb3)
 have r0_:=HR3.out.cell 0 rfl;have r1_:=HR3.out.cell 1 rfl
 have HBW:=hdz (HB.out.trans ((hb1.trans (HB2.out.trans (hb3.mono HB2.out.size) |>.mono hb1.size)).mono HB.out.size))
 clear hb3 hb1
 go_wp2_with fail
 first|go_ret|skip
 exact⟨rfl,HBW.out⟩
end
end Go.Proofs.YtpnncoinlopndaaGreatDoor
