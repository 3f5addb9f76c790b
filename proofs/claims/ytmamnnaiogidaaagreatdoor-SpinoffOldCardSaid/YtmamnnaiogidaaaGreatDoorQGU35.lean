/- Mw. -/
import Derived.Test.YtmamnnaiogidaaaGreatDoorQGU28
import Derived.Test.YtmamnnaiogidaaaGreatDoorQGU33
set_option maxRecDepth 100000
set_option maxHeartbeats 8000000
namespace Go.Proofs.YtmamnnaiogidaaaGreatDoor
open Go.Lib renaming hid→jq
section
open Go.RowKit Go.Shelf
attribute [local go_sem] Oper.semAt_some
attribute [local go_sem ↓] Go.wp_at_zero Go.wp_at_succ VQ ZcU
def Bw(W X:World):Prop:=Below W.1.size W X
theorem Bw.refl(W:World):Bw W W:=Below.refl _ _
theorem Bw.drew{W X:World}(h:Bw W X):Bw W X.drew:=Below.drew h
theorem Bw.alloc{W X:World}(h:Bw W X)(o:Obj):Bw W (X.alloc o):=Below.alloc h (Below.size h) o
theorem Bw.call{W X Y:World}(h:Bw W X)(hb:Below X.1.size X Y):Bw W Y:=Below.trans h (hb.mono (Below.size h))
theorem Bw.set{W X:World}{p:Nat}(h:Bw W X)(hp:W.1.size<=p)(j:Nat)(u:Value):Bw W (X.setCell ⟨p,j,none⟩ u):=Below.setCell h hp u
theorem Bw.size{W X:World}(h:Bw W X):W.1.size<=X.1.size:=Below.size h
theorem Bw.mono{W X:World}{n:Nat}(h:Bw W X)(hn:n<=W.1.size):Below n W X:=Below.mono h hn
theorem Kp.kp3{w A B:World}{bs:List (Nat×Array Value×TypeId)}{p:Nat}(h:Kp w bs A)(hk:Kp3 p p A B)(hp:∀b∈bs,b.1≠p)(hwp:w.1.size<=p):Kp w bs B:=
 ⟨h.pow,hk.under h.bl h.bl.size hwp hwp,h.own,h.ord,fun b hb=>hk.blkB (h.blk b hb) (hp b hb) (hp b hb)⟩
theorem Own.kp3{α:Type}{enc:α->List Value}{k base:Nat}{e:TypeId}{v:Value}{xs:List α}{A B:World}{p:Nat}(h:Own enc k e A base v xs)(hk:Kp3 p p A B)(hp:v.ownBlock≠some p):Own enc k e B base v xs:=
 World.ownsRow.kept h (row:=some p) ⟨hk.os,hk.tape,hk.output,hk.size,fun b hb hne=>hk.blk b hb (fun e=>hne (by rw[e])) (fun e=>hne (by rw[e]))⟩ (.inr hp)
theorem Own.sets5{α:Type}{enc:α->List Value}{k base:Nat}{e:TypeId}{v:Value}{xs:List α}{X:World}{p4 p5:Nat}{cs4 cs5:Array Value}(h:Own enc k e X base v xs)(h4:BlkB X p4 cs4 37)(h5:BlkB X p5 cs5 38)(n4:e≠37)(n5:e≠38)(hne:p5≠p4)(a b c d f:Value):
 Own enc k e (((((X.setCell ⟨p4,0,none⟩ a).setCell ⟨p4,1,none⟩ b).setCell ⟨p4,2,none⟩ c).setCell ⟨p4,3,none⟩ d).setCell ⟨p5,0,none⟩ f) base v xs:=
 ((((h.farB h4 n4 0 a).farB (h4.set 0 a) n4 1 b).farB ((h4.set 0 a).set 1 b) n4 2 c).farB (((h4.set 0 a).set 1 b).set 2 c) n4 3 d).farB ((((h5.far (a:=⟨p4,0,none⟩) hne a).far (a:=⟨p4,1,none⟩) hne b).far (a:=⟨p4,2,none⟩) hne c).far (a:=⟨p4,3,none⟩) hne d) n5 0 f
theorem ZdV{X:World}{p4 p5 D:Nat}(h4:D≠p4)(h5:D≠p5)(a b c d f:Value):(((((X.setCell ⟨p4,0,none⟩ a).setCell ⟨p4,1,none⟩ b).setCell ⟨p4,2,none⟩ c).setCell ⟨p4,3,none⟩ d).setCell ⟨p5,0,none⟩ f).heap[D]?=X.heap[D]?:=by
 rw[Below.heap_setCell _ _ _ _ h5,Below.heap_setCell _ _ _ _ h4,Below.heap_setCell _ _ _ _ h4,Below.heap_setCell _ _ _ _ h4,Below.heap_setCell _ _ _ _ h4]
theorem Znm{W:World}{base n c:Nat}{A:Option Addr}{xs:List Lot}(h:Own L7 7 50 W base (.slice A n c) xs):(A=none/\c=0)\/∃b off,A=some ⟨b,off,none⟩:=by
 obtain⟨A',c',hv,_,_,h4,h5⟩:=h.form
 injection hv with e1 e2 e3;subst e1;subst e3
 cases A with
 |none=>exact .inl ⟨rfl,h4 rfl⟩
 |some a=>
  have h:=(h5 a.block rfl).1;exact .inr ⟨_,_,h⟩
def ZcY(r:Res×Int)(w:World)(e:Ending)(w':World):Prop:=
 ∃A c Ag cg As cs,e=.returned (.tuple #[.agg #[.slice A r.1.lots.length c,.slice Ag r.1.gains.length cg,.slice As r.1.steps.length cs,.slice none 0 0],.int .i64 r.2])/\Own L7 7 50 w' w.1.size (.slice A r.1.lots.length c) r.1.lots/\Own G10 10 47 w' w.1.size (.slice Ag r.1.gains.length cg) r.1.gains/\Own S6 6 173 w' w.1.size (.slice As r.1.steps.length cs) r.1.steps/\Below w.1.size w w'
def MapFin(r:Res×Int)(w:World)(p4 p5:Nat)(W:World):Prop:=
 ∃A c Ag cg As cs,BlkB W p4 #[.slice A r.1.lots.length c,.slice Ag r.1.gains.length cg,.slice As r.1.steps.length cs,.slice none 0 0] 37/\BlkB W p5 #[.int .i64 r.2] 38/\Own L7 7 50 W w.1.size (.slice A r.1.lots.length c) r.1.lots/\Own G10 10 47 W w.1.size (.slice Ag r.1.gains.length cg) r.1.gains/\Own S6 6 173 W w.1.size (.slice As r.1.steps.length cs) r.1.steps/\Below w.1.size w W
theorem MapFin.turned{r:Res×Int}{w W W':World}{p4 p5 B:Nat}{row:Option Nat}(h:MapFin r w p4 p5 W)(hg:W.grownBy W' row)(hr:ZaC B W row)(hB:w.1.size<=B):MapFin r w p4 p5 W':=by
 obtain⟨A,c,Ag,cg,As,cs,h1,h2,h3,h4,h5,h6⟩:=h
 exact⟨A,c,Ag,cg,As,cs,h1.turned hg hr,h2.turned hg hr,h3.turned hg hr,h4.turned hg hr,h5.turned hg hr,h6.grown hg h6.size (fun r e=>Nat.le_trans hB (hr r e).1)⟩
theorem MapFin.put{r:Res×Int}{w W:World}{p4 p5 D:Nat}(h:MapFin r w p4 p5 W)(hD:w.1.size<=D)(ho:W.heap[D]?=some (.deferred (some []))):MapFin r w p4 p5 (W.putObj D (.deferred none)):=by
 obtain⟨A,c,Ag,cg,As,cs,h1,h2,h3,h4,h5,h6⟩:=h
 have hg:=grownBy_putObj' W D (.deferred none)
 have hr:ZaC w.1.size W (some D):=fun r e=>by cases e;exact⟨hD,_,ho,rfl⟩
 exact⟨A,c,Ag,cg,As,cs,h1.turned hg hr,h2.turned hg hr,h3.turned hg hr,h4.turned hg hr,h5.turned hg hr,h6.grown hg h6.size (fun r e=>by cases e;exact hD)⟩
theorem MapFin.leave{r:Res×Int}{w W:World}{p4 p5:Nat}{tmps:Array Value}(h:MapFin r w p4 p5 W)(e4:tmps.getD 4 undef=.pointer (some ⟨p4,0,none⟩))(e5:tmps.getD 5 undef=.pointer (some ⟨p5,0,none⟩)):
 LeavesInM Fence.wide 5 Tryz.prog Tryz.f29 tmps (ZcY r w) [] .returning W:=by
 obtain⟨A,c,Ag,cg,As,cs,h1,h2,h3,h4,h5,h6⟩:=h
 have e4':tmps[4]?.getD undef=.pointer (some ⟨p4,0,none⟩):=by simpa using e4
 have e5':tmps[5]?.getD undef=.pointer (some ⟨p5,0,none⟩):=by simpa using e5
 have c0:=h1.cell 0 rfl;have c1:=h1.cell 1 rfl;have c2:=h1.cell 2 rfl;have c3:=h1.cell 3 rfl;have c4:=h2.cell 0 rfl;refine⟨.tuple #[.agg #[.slice A r.1.lots.length c,.slice Ag r.1.gains.length cg,.slice As r.1.steps.length cs,.slice none 0 0],.int .i64 r.2],?_,A,c,Ag,cg,As,cs,rfl,h3,h4,h5,h6⟩;simp[results,Tryz.results29,go_sem,e4',e5',c0,c1,c2,c3,c4]
theorem Znn(A:Option Addr)(n c:Nat)(ls:List Lot)(m:Mp)(w:World)(L:Nat)(hp:Env w)(hs:Xg w w.1.size A n ls)(hnil:(A=none/\c=0)\/∃a,A=some a)(hn:n<=100000)(hl:∀y∈ls,y.Sz 50000)(hm:m.Sz 5000\/m.Bad)
 (hL:L<=100) (hL1:1<=L) (hq:∀y∈ls,y.q.length<=L) (hc:∀y∈ls,y.c.length<=L) (hr:m.ratio.Sz L) (hsh:m.share.Sz L) (hpr:m.price.Sz L):
 Calls Tryz.prog 29 #[.slice A n c,MpV m] w (ZcY (QQ ls m) w):=by
 obtain⟨post,hpost⟩:∃post,post=ZcY (QQ ls m) w:=⟨_,rfl⟩
 rw[<-hpost];have HPO:=jq hpost;clear hpost;have HBAD:=jq (ZlS (ls:=ls) (m:=m));have HIDL:=jq (ZjC (ls:=ls) (m:=m));have HTAK:=jq (ZhO (ls:=ls) (m:=m));have HGO:=jq (Znf (ls:=ls) (m:=m));generalize QQ ls m=res at*;have HVA:=jq (fun W (hb:Below w.1.size w W)=>Zch A n c ls m W (hp.here hb) (hs.here hb) hl hm (by omega));have HK0:=jq (show Kp w [(w.1.size+1+1+1,#[.int .i64 0],38),(w.1.size+1+1,#[.slice none 0 0,.slice none 0 0,.slice none 0 0,.slice none 0 0],37),(w.1.size+1,#[.string ⟨m.cause.toArray⟩,.int .i64 m.day,.string ⟨m.inst.toArray⟩,.string ⟨m.other.toArray⟩,.string ⟨m.ratio.n.toArray⟩,.string ⟨m.ratio.d.toArray⟩,.string ⟨m.share.n.toArray⟩,.string ⟨m.share.d.toArray⟩,.string ⟨m.price.n.toArray⟩,.string ⟨m.price.d.toArray⟩,.bool m.keep],75),(w.1.size,#[.slice A n c],22)] ((((w.alloc (.cells #[.slice A n c] 22)).alloc (.cells #[.string ⟨m.cause.toArray⟩,.int .i64 m.day,.string ⟨m.inst.toArray⟩,.string ⟨m.other.toArray⟩,.string ⟨m.ratio.n.toArray⟩,.string ⟨m.ratio.d.toArray⟩,.string ⟨m.share.n.toArray⟩,.string ⟨m.share.d.toArray⟩,.string ⟨m.price.n.toArray⟩,.string ⟨m.price.d.toArray⟩,.bool m.keep] 75)).alloc (.cells #[.slice none 0 0,.slice none 0 0,.slice none 0 0,.slice none 0 0] 37)).alloc (.cells #[.int .i64 0] 38)) from(((Kp.start hp).new w.1.size rfl _ _).new (w.1.size+1) (by simp) _ _).new (w.1.size+1+1) (by simp) _ _ |>.new (w.1.size+1+1+1) (by simp) _ _);have HP:=jq hp;have HS:=jq hs;have HNI:=jq hnil;have HN:=jq hn;have HSL:=jq hl;have HM:=jq hm;have HLL:=jq (And.intro hL (And.intro hL1 (And.intro hq hc)));have HFR:=jq (And.intro hr (And.intro hsh hpr));clear hp hs hnil hn hl hm hL hL1 hq hc hr hsh hpr;obtain⟨vb,hvb⟩:∃vb,vb=(decide (Xm ls=0)&&decide (mpC m=0)):=⟨_,rfl⟩
 rw[<-hvb] at HVA;have HVB:=jq hvb;clear hvb;unfold MpV;rw[YG];unfold MpV at HVA;rw[YG] at HVA;refine(callsIn_wide (n:=5)).1 ?_;refine callsIn_of_wp_marks Tryz.func29 rfl trivial ?_ rfl;simp only[Tryz.ntmps29,List.size_toArray,List.length_cons,List.length_nil,Nat.reduceAdd,Nat.reduceSub,Array.replicate_succ,Array.replicate_zero,List.push_toArray,List.append_toArray,List.nil_append,List.cons_append];refine wpIn_wide.2 ?_;go_wp2_with fail
 generalize ((((w.alloc (.cells #[.slice A n c] 22)).alloc (.cells #[.string ⟨m.cause.toArray⟩,.int .i64 m.day,.string ⟨m.inst.toArray⟩,.string ⟨m.other.toArray⟩,.string ⟨m.ratio.n.toArray⟩,.string ⟨m.ratio.d.toArray⟩,.string ⟨m.share.n.toArray⟩,.string ⟨m.share.d.toArray⟩,.string ⟨m.price.n.toArray⟩,.string ⟨m.price.d.toArray⟩,.bool m.keep] 75)).alloc (.cells #[.slice none 0 0,.slice none 0 0,.slice none 0 0,.slice none 0 0] 37)).alloc (.cells #[.int .i64 0] 38))=W0 at*;refine(HVA.out _ HK0.out.bl).mono ?_;rintro e w1 ⟨rfl,hb1⟩;have HK1:=jq (HK0.out.here hb1);clear HK0 HVA hb1
 cases vb with
 |false=>
  have HR:=jq (HBAD.out (by
   have h:=HVB.out
   by_cases h1:Xm ls=0
   ·refine .inr (fun h2=> ?_);rw[decide_eq_true h1,decide_eq_true h2] at h
    cases h
   ·exact .inl h1))
  have n0:=HK1.out.c 1 0 rfl rfl;have n1:=HK1.out.c 1 1 rfl rfl;have n2:=HK1.out.c 1 2 rfl rfl;have n3:=HK1.out.c 1 3 rfl rfl;have n4:=HK1.out.c 0 0 rfl rfl;have f0:=HK1.out.f 1 0 rfl;have f1:=HK1.out.f 1 1 rfl;have f2:=HK1.out.f 1 2 rfl;have f3:=HK1.out.f 1 3 rfl;have f4:=HK1.out.f 0 0 rfl;go_wp2_with fail
  have HF:=jq (show MapFin res w (w.1.size+1+1) (w.1.size+1+1+1) (((((w1.setCell ⟨w.1.size+1+1,0,none⟩ (.slice none 0 0)).setCell ⟨w.1.size+1+1,1,none⟩ (.slice none 0 0)).setCell ⟨w.1.size+1+1,2,none⟩ (.slice none 0 0)).setCell ⟨w.1.size+1+1,3,none⟩ (.slice none 0 0)).setCell ⟨w.1.size+1+1+1,0,none⟩ (.int .i64 1)) from by
   rw[HR.out];have h:=((((HK1.out.set 1 0 rfl (.slice none 0 0)).set 1 1 rfl (.slice none 0 0)).set 1 2 rfl (.slice none 0 0)).set 1 3 rfl (.slice none 0 0)).set 0 0 rfl (.int .i64 1);exact⟨none,0,none,0,none,0,h.at_ 1 rfl,h.at_ 0 rfl,Own.nil,Own.nil,Own.nil,h.bl⟩)
  rw[HPO.out];exact HF.out.leave rfl rfl
 |true=>
  have hv1:Xm ls=0:=by
   have h:=HVB.out;simp only[Bool.true_eq,Bool.and_eq_true,decide_eq_true_eq] at h;exact h.1
  have hv2:mpC m=0:=by
   have h:=HVB.out;simp only[Bool.true_eq,Bool.and_eq_true,decide_eq_true_eq] at h;exact h.2
  have hlok:=(Yd ls).1 hv1;have hmok:=(VU m).1 hv2;have HPR:=jq (fun W (hb:Below w.1.size w W)=>Zaw A n c ls m W L (HP.out.here hb) (HS.out.here hb) hlok hmok HLL.out.1 HLL.out.2.1 HLL.out.2.2.1 HLL.out.2.2.2 HFR.out.1 HFR.out.2.1 HFR.out.2.2);unfold MpV at HPR;rw[YG] at HPR;have HV1:=jq hv1;have HV2:=jq hv2;have HLO:=jq hlok;have HMO:=jq hmok;clear hv1 hv2 hlok hmok;have c0:=HK1.out.c 3 0 rfl rfl;obtain⟨z0,z1,z2,z3,z4,z5,z6,z7,z8,z9,z10⟩:=ZcH HK1.out (m:=m) (i:=2) rfl
  go_wp2_with fail
  refine(HPR.out _ HK1.out.bl).mono ?_;rintro e w2 ⟨v,pn,pm,pf,pp,rfl,hvm,hM,hb2⟩;have HK2:=jq ((HK1.out.here hb2).new w2.1.size rfl #[.string ⟨#[]⟩,.int .i64 0,.string ⟨#[]⟩,.string ⟨#[]⟩,.string ⟨#[]⟩,.string ⟨#[]⟩,.string ⟨#[]⟩,.string ⟨#[]⟩,.string ⟨#[]⟩,.string ⟨#[]⟩,.bool false,.slice none 0 0,.string ⟨#[]⟩,.string ⟨#[]⟩,.string ⟨#[]⟩,.slice none 0 0,.slice none 0 0,.slice none 0 0,.slice none 0 0] 117)
  have hbA:Below w2.1.size w2 ((w2.alloc (.cells #[.string ⟨#[]⟩,.int .i64 0,.string ⟨#[]⟩,.string ⟨#[]⟩,.string ⟨#[]⟩,.string ⟨#[]⟩,.string ⟨#[]⟩,.string ⟨#[]⟩,.string ⟨#[]⟩,.string ⟨#[]⟩,.bool false,.slice none 0 0,.string ⟨#[]⟩,.string ⟨#[]⟩,.string ⟨#[]⟩,.slice none 0 0,.slice none 0 0,.slice none 0 0,.slice none 0 0] 117)).setRow w2.1.size (QN v)):=by
   refine⟨rfl,rfl,rfl,by simp[World.setRow],fun b hb=> ?_⟩;exact(setRow_other _ _ b _ (by omega)).trans (Below.heap_alloc w2 _ b hb)
  have HM3:=jq (hM.below hbA);have hst:=ZbF (HK2.out.at_ 0 rfl) rfl (Zay v) (ZaT v (by rw[hM.en];rfl) (by rw[hM.em];rfl) (by rw[hM.ef];rfl) (by rw[hM.ep];rfl));have HK3:=jq (HK2.out.row 0 rfl (QN v));have hon:=hM.len;have HVM:=jq hvm;have E11:=jq (show(QN v)[11]?=some (.slice v.oA v.on v.oc) from rfl);have ES:=jq (Zay v);have c11:=HK3.out.c 0 11 rfl E11.out;clear c0 z0 z1 z2 z3 z4 z5 z6 z7 z8 z9 z10 hM hb2 HK1 HPR hvm hbA HK2;generalize hpb:QN v=pb at*;have HPB:=jq hpb;clear hpb;obtain⟨N,hN⟩:∃N,N=v.on:=⟨_,rfl⟩
  rw[<-hN] at hon c11 E11;have HNV:=jq hN;have HON:=jq hon;clear hN hon;go_upto_if 27 with (fail)
  have HK4:=jq (show Kp w [(w2.1.size,pb,117),(w.1.size+1+1+1,#[.int .i64 0],38),(w.1.size+1+1,#[.slice none 0 0,.slice none 0 0,.slice none 0 0,.slice none 0 0],37),(w.1.size+1,#[.string ⟨m.cause.toArray⟩,.int .i64 m.day,.string ⟨m.inst.toArray⟩,.string ⟨m.other.toArray⟩,.string ⟨m.ratio.n.toArray⟩,.string ⟨m.ratio.d.toArray⟩,.string ⟨m.share.n.toArray⟩,.string ⟨m.share.d.toArray⟩,.string ⟨m.price.n.toArray⟩,.string ⟨m.price.d.toArray⟩,.bool m.keep],75),(w.1.size,#[.slice A n c],22)] ((w2.alloc (.cells #[.string ⟨#[]⟩,.int .i64 0,.string ⟨#[]⟩,.string ⟨#[]⟩,.string ⟨#[]⟩,.string ⟨#[]⟩,.string ⟨#[]⟩,.string ⟨#[]⟩,.string ⟨#[]⟩,.string ⟨#[]⟩,.bool false,.slice none 0 0,.string ⟨#[]⟩,.string ⟨#[]⟩,.string ⟨#[]⟩,.slice none 0 0,.slice none 0 0,.slice none 0 0,.slice none 0 0] 117)).setRow w2.1.size pb) from HK3.out);generalize (w2.alloc (.cells #[.string ⟨#[]⟩,.int .i64 0,.string ⟨#[]⟩,.string ⟨#[]⟩,.string ⟨#[]⟩,.string ⟨#[]⟩,.string ⟨#[]⟩,.string ⟨#[]⟩,.string ⟨#[]⟩,.string ⟨#[]⟩,.bool false,.slice none 0 0,.string ⟨#[]⟩,.string ⟨#[]⟩,.string ⟨#[]⟩,.slice none 0 0,.slice none 0 0,.slice none 0 0,.slice none 0 0] 117)).setRow w2.1.size pb=W3 at*;clear HK3 hst c11
  by_cases ho:Qb ls m.inst=[]
  ·have h0:N=0:=by rw[HON.out,ho];rfl
   have HR:=jq (HIDL.out HV1.out HV2.out ho);have HCL:=jq (ZdU A n c ls W3 (HS.out.here HK4.out.bl) (by have:=HN.out;omega) HNI.out);subst h0;clear ho;have c0:=HK4.out.c 4 0 rfl rfl;go_wp2_with fail
   refine HCL.out.mono ?_;rintro e w4 ⟨A1,c1,rfl,hcl,hb4⟩;have HK5:=jq (HK4.out.here hb4);have HO1:=jq (hcl.base_ HK4.out.bl.size);clear hcl hb4 c0;have n0:=HK5.out.c 2 0 rfl rfl;have n1:=HK5.out.c 2 1 rfl rfl;have n2:=HK5.out.c 2 2 rfl rfl;have n3:=HK5.out.c 2 3 rfl rfl;have n4:=HK5.out.c 1 0 rfl rfl;have f0:=HK5.out.f 2 0 rfl;have f1:=HK5.out.f 2 1 rfl;have f2:=HK5.out.f 2 2 rfl;have f3:=HK5.out.f 2 3 rfl;have f4:=HK5.out.f 1 0 rfl
   have HF:=jq (show MapFin res w (w.1.size+1+1) (w.1.size+1+1+1) (((((w4.setCell ⟨w.1.size+1+1,0,none⟩ (.slice A1 n c1)).setCell ⟨w.1.size+1+1,1,none⟩ (.slice none 0 0)).setCell ⟨w.1.size+1+1,2,none⟩ (.slice none 0 0)).setCell ⟨w.1.size+1+1,3,none⟩ (.slice none 0 0)).setCell ⟨w.1.size+1+1+1,0,none⟩ (.int .i64 0)) from by
    rw[HR.out];have h:=((((HK5.out.set 2 0 rfl (.slice A1 n c1)).set 2 1 rfl (.slice none 0 0)).set 2 2 rfl (.slice none 0 0)).set 2 3 rfl (.slice none 0 0)).set 1 0 rfl (.int .i64 0);have ho:=((((HO1.out.farB (HK5.out.at_ 2 rfl) (by decide) 0 (.slice A1 n c1)).farB ((HK5.out.set 2 0 rfl (.slice A1 n c1)).at_ 2 rfl) (by decide) 1 (.slice none 0 0)).farB (((HK5.out.set 2 0 rfl (.slice A1 n c1)).set 2 1 rfl (.slice none 0 0)).at_ 2 rfl) (by decide) 2 (.slice none 0 0)).farB ((((HK5.out.set 2 0 rfl (.slice A1 n c1)).set 2 1 rfl (.slice none 0 0)).set 2 2 rfl (.slice none 0 0)).at_ 2 rfl) (by decide) 3 (.slice none 0 0)).farB (((((HK5.out.set 2 0 rfl (.slice A1 n c1)).set 2 1 rfl (.slice none 0 0)).set 2 2 rfl (.slice none 0 0)).set 2 3 rfl (.slice none 0 0)).at_ 1 rfl) (by decide) 0 (.int .i64 0);have hls:n=ls.length:=HS.out.1;subst hls;exact⟨A1,c1,none,0,none,0,h.at_ 2 rfl,h.at_ 1 rfl,ho,Own.nil,Own.nil,h.bl⟩)
   go_wp2_with fail
   rw[HPO.out];exact HF.out.leave rfl rfl
  ·have h0:(N==0)=false:=by
    rw[HON.out];have:(Qb ls m.inst).length≠0:=fun h=>ho (List.length_eq_zero_iff.1 h)
    simpa using this
   have h0i:(((N:Nat):Int)==0)=false:=by
    have:N≠0:=by simpa using h0
    rw[beq_eq_false_iff_ne];omega
   have HOL:=jq ho;clear ho;have hld:=XO (HK4.out.at_ 0 rfl) ES.out;have HFRE:=jq (fun W=>ZeQ v W);rw[Yt,HPB.out] at HFRE;go_wp2_with fail
   refine(HFRE.out _).mono ?_;rintro e w5 ⟨rfl,rfl⟩;go_wp2_with fail
   have hK5:=HK4.out.alloc (.cells pb 117);have hBX:BlkB (W3.alloc (.cells pb 117)) W3.1.size pb 117:=heap_alloc_new W3 _;have hM4:=HM3.out.below ((Below.refl W3.1.size W3).alloc (Nat.le_refl _) (.cells pb 117) |>.mono (by have:=HK4.out.lt 0 rfl;omega));have hsz4:(W3.alloc (.cells pb 117)).heap.size=W3.1.size+1:=by simp
   have hlo:(Qb ls m.inst).length<=1000:=Nat.le_trans (XI ls m.inst) HLO.out.len;have hplk:=ZaS (Qz HLO.out m.inst) HMO.out hlo HLL.out.2.1 (fun y hy=>HLL.out.2.2.1 y (List.mem_filter.1 hy).1) (fun y hy=>HLL.out.2.2.2 y (List.mem_filter.1 hy).1) HFR.out.1 HFR.out.2.2;have HPK:=jq hplk;have hw2:=HK4.out.lt 0 rfl;have hps:PlSz2 20000 (Qe (Qb ls m.inst) m):=⟨hplk.sz.sz.more (by have:=HLL.out.1;omega),fun i=>Nat.le_trans (hplk.sz.mv i) (by have:=HLL.out.1;omega),fun i=>Nat.le_trans (hplk.sz.rest i) (by have:=HLL.out.1;omega)⟩;have hcz:m.cause.length<=16:=ZcW HMO.out.cause;have hBX2:BlkB (W3.alloc (.cells pb 117)) W3.1.size (QN v) 117:=by rw[HPB.out];exact hBX
   have HSEQ:=jq (JN 4 (by omega) (fun b=>b<(W3.alloc (.cells pb 117)).heap.size) W3.1.size w2.1.size v (Qe (Qb ls m.inst) m) (Qb ls m.inst) pn pm pf pp (W3.alloc (.cells pb 117)) hK5.pw hBX2 hM4 hps (by omega) (by omega) (by rw[HVM.out];omega) (fun b hb=>by show b<_;omega) (by show W3.1.size<_;omega) (Zb8 hK5.pw (fun b hb=>hb)));rw[HVM.out] at HSEQ;have HK5:=jq hK5;have HM4:=jq hM4;have HPS:=jq hps;have HLO1:=jq hlo;have HCZ:=jq hcz;have HW2:=jq hw2;have hwB:w.1.size<=(W3.alloc (.cells pb 117)).heap.size:=hK5.bl.size;have HWB:=jq hwB;clear hK5 hBX hM4 hlo hplk hw2 hps hcz hBX2 hld hwB;have HOO:=jq (Qz HLO.out m.inst);have HW34:=jq (show W3.1.size<=(W3.alloc (.cells pb 117)).heap.size by omega)
   have HCP:=jq (show(Qb ls m.inst).length=ls.countP (fun z=>decide (z.inst=m.inst)) from by
    unfold Qb;rw[List.countP_eq_length_filter]
    congr 1
    exact List.filter_congr (fun z _=>by rw[Bool.eq_iff_iff];simp))
   generalize Qe (Qb ls m.inst) m=x at*;generalize Qb ls m.inst=old at*;have HBX:=jq (show W3.1.size<(W3.alloc (.cells pb 117)).heap.size by omega);have HW24:=jq (show w2.1.size<=(W3.alloc (.cells pb 117)).heap.size by have:=HW2.out;omega);clear hsz4;obtain⟨B3,hB3⟩:∃B3,B3=W3.1.size:=⟨_,rfl⟩
   rw[<-hB3] at HSEQ HBX ⊢;clear hB3;generalize W3.alloc (.cells pb 117)=W4 at*;refine(wpIn_wide (n:=5)).1 ?_
   refine wpIn_rangeFunc_ownH (α:={z:Nat×Lot//z∈QE m x old}) (F:=Fence.wide) (n:=5) rfl (by omega) (gf:=107) (lb:=#[.pointer (some ⟨B3,0,none⟩)]) rfl trivial (enters_of Tryz.func107 (by kernel_rfl) rfl)
    HSEQ.out (fun h k=>h.trans k) ?hKb (Below.refl _ _) (fun _=>rfl)
    (fun(pre:List {z:Nat×Lot//z∈QE m x old}) W=>Below W4.1.size W4 W/\∀z∈Xn pre,z.2.id ∉ ls.map (·.id))
    (fun c _ W=>c=.ret/\MapFin res w (w.1.size+1+1) (w.1.size+1+1+1) W)
    (fun pre W W' row ⟨h1,h2⟩ hg hr=>⟨Qu h1 hg h1.size (fun g e=>(hr g e).1),h2⟩)
    (fun c pre W W' row ⟨h1,h2⟩ hg hr=>⟨h1,h2.turned hg hr HWB.out⟩) ⟨Below.refl _ _,by simp[Xn]⟩
    (fun x a' W=>∃Bz,W4.1.size<=Bz/\BlkB W Bz (XU x.1.2) 50/\a'={tmps:=#[Value.slice A n c,.agg #[.string ⟨m.cause.toArray⟩,.int .i64 m.day,.string ⟨m.inst.toArray⟩,.string ⟨m.other.toArray⟩,.string ⟨m.ratio.n.toArray⟩,.string ⟨m.ratio.d.toArray⟩,.string ⟨m.share.n.toArray⟩,.string ⟨m.share.d.toArray⟩,.string ⟨m.price.n.toArray⟩,.string ⟨m.price.d.toArray⟩,.bool m.keep],.pointer (some ⟨w.1.size,0,none⟩),.pointer (some ⟨w.1.size+1,0,none⟩),.pointer (some ⟨w.1.size+1+1,0,none⟩),.pointer (some ⟨w.1.size+1+1+1,0,none⟩),.pointer (some ⟨w2.1.size,0,none⟩),undef,.pointer (some ⟨Bz,0,none⟩),undef,undef,undef,undef,undef,undef,undef,.slice A n c,.agg #[.string ⟨m.cause.toArray⟩,.int .i64 m.day,.string ⟨m.inst.toArray⟩,.string ⟨m.other.toArray⟩,.string ⟨m.ratio.n.toArray⟩,.string ⟨m.ratio.d.toArray⟩,.string ⟨m.share.n.toArray⟩,.string ⟨m.share.d.toArray⟩,.string ⟨m.price.n.toArray⟩,.string ⟨m.price.d.toArray⟩,.bool m.keep],.bool true,.bool false,undef,.slice A n c,.agg #[.string ⟨m.cause.toArray⟩,.int .i64 m.day,.string ⟨m.inst.toArray⟩,.string ⟨m.other.toArray⟩,.string ⟨m.ratio.n.toArray⟩,.string ⟨m.ratio.d.toArray⟩,.string ⟨m.share.n.toArray⟩,.string ⟨m.share.d.toArray⟩,.string ⟨m.price.n.toArray⟩,.string ⟨m.price.d.toArray⟩,.bool m.keep],.agg pb,.pointer (some ⟨w2.1.size,11,none⟩),.slice v.oA N v.oc,.int .i64 N,.bool false,undef,undef,undef,.agg pb,.func (.func 107) #[] #[.pointer (some ⟨B3,0,none⟩)],.int .i64 x.1.1,XV x.1.2,undef,undef,undef,undef,undef,undef,undef,undef,undef,undef,undef,undef,undef,undef,undef,undef,undef,undef,undef,undef,undef,undef,undef,undef,undef,undef,undef,undef,undef,undef,undef,undef,undef,undef],defers:=[]})
    (fun x a' _ W W' row ⟨Bz,h1,h2,h3⟩ hg hr=>⟨Bz,h1,h2.turned hg hr,h3⟩) ?assign ?body ?done ?stop
   case hKb=>
    intro W l o o' hl _ _ _;exact KeepS.put (fun e=>by omega) _
   case assign=>
    rintro lr pre x W K ⟨h1,h2⟩ hK
    dsimp only[XV,S]
    gi_wp2
    exact hK _ _ ((KeepsOthers.alloc _ _).from _) (KeepS.below ((Below.refl _ W).alloc (Nat.le_refl _) _)) ⟨h1.alloc h1.size _,h2⟩ ⟨W.1.size,h1.size,heap_alloc_new W _,rfl⟩
   case stop=>
    rintro D c pre W hD hpre ⟨rfl,hF⟩ hK
    gi_wp2
    rw[HPO.out];exact⟨by simp,.inl ⟨_,_,rfl,run_takeDeferred hK,(hF.put (Nat.le_trans HWB.out hD) hK).leave rfl rfl⟩⟩
   case body=>
    rintro lr pre x a' W hlr ⟨rr,hrr⟩ ⟨h1,h2⟩ ⟨Bz,hBz,bZ,rfl⟩ hlen;have HKW:=jq (HK5.out.here h1);have HB1:=jq h1;have HI2:=jq h2;have HBZ:=jq bZ;have HFD:=jq (Jr A n c ls x.1.2.id W (HS.out.here HKW.out.bl) (by have:=HN.out;omega));have c0:=HKW.out.c 4 0 rfl rfl;have cz:W.cell? ⟨Bz,0,none⟩=some (.string ⟨x.1.2.id.toArray⟩):=bZ.cell 0 rfl;have HFM:=jq (ZbK ls x.1.2.id);generalize max (Zax ls x.1.2.id) 0=mx at*;generalize decide (0<=Zax ls x.1.2.id)=fb at*;clear h1 h2 bZ hrr hlen;unfold S at HFD
    dsimp only[XV,S]
    gi_wp2
    refine⟨trivial,CallsIn.inRound _ ((callsIn_wide.2 HFD.out).mono ?_)⟩;rintro e w6 ⟨rfl,hb6⟩;have HK6:=jq (HKW.out.here hb6);have HB6:=jq hb6;clear hb6 c0 cz
    cases fb with
    |true=>
     have HR:=jq (HTAK.out HV1.out HV2.out HOL.out x.2 (by simpa using HFM.out));have n0:=HK6.out.c 2 0 rfl rfl;have n1:=HK6.out.c 2 1 rfl rfl;have n2:=HK6.out.c 2 2 rfl rfl;have n3:=HK6.out.c 2 3 rfl rfl;have n4:=HK6.out.c 1 0 rfl rfl;have f0:=HK6.out.f 2 0 rfl;have f1:=HK6.out.f 2 1 rfl;have f2:=HK6.out.f 2 2 rfl;have f3:=HK6.out.f 2 3 rfl;have f4:=HK6.out.f 1 0 rfl
     have HF:=jq (show MapFin res w (w.1.size+1+1) (w.1.size+1+1+1) (((((w6.setCell ⟨w.1.size+1+1,0,none⟩ (.slice none 0 0)).setCell ⟨w.1.size+1+1,1,none⟩ (.slice none 0 0)).setCell ⟨w.1.size+1+1,2,none⟩ (.slice none 0 0)).setCell ⟨w.1.size+1+1,3,none⟩ (.slice none 0 0)).setCell ⟨w.1.size+1+1+1,0,none⟩ (.int .i64 5)) from by
      rw[HR.out];have h:=((((HK6.out.set 2 0 rfl (.slice none 0 0)).set 2 1 rfl (.slice none 0 0)).set 2 2 rfl (.slice none 0 0)).set 2 3 rfl (.slice none 0 0)).set 1 0 rfl (.int .i64 5);exact⟨none,0,none,0,none,0,h.at_ 2 rfl,h.at_ 1 rfl,Own.nil,Own.nil,Own.nil,h.bl⟩)
     gi_wp2
     exact⟨(JY HB6.out _).trans (((((KeepsOthers.setCell _ _ _).trans (KeepsOthers.setCell _ _ _)).trans (KeepsOthers.setCell _ _ _)).trans (KeepsOthers.setCell _ _ _)).trans (KeepsOthers.setCell _ _ _) |>.from _),rfl,HF.out⟩
    |false=>
     gi_wp2
     refine⟨JY HB6.out _,KeepS.below HB6.out,HB1.out.trans (HB6.out.mono HB1.out.size),?_⟩;intro z hz;rw[Jn] at hz
     rcases List.mem_append.1 hz with hz|hz
     ·exact HI2.out z hz
     ·rw[List.mem_singleton.1 hz];have h:=HFM.out;simpa using h
   case done=>
    rintro D ys W hD hS ⟨h1,h2⟩ hK;have HYS:=jq (show Xn ys=QE m x old from hS);have HFREE:=jq (show ∀z∈QE m x old,z.2.id ∉ ls.map (·.id) from by rw[<-HYS.out];exact h2);have HKW:=jq (HK5.out.here h1);have HMW:=jq (HM4.out.below (h1.mono HW24.out));have HW4:=jq h1.size;have HDD:=jq hK;have HDL:=jq hD;clear h1 h2 hS hK hD HYS HSEQ
    gi_wp2_with fail
    obtain⟨kl,hkl⟩:∃kl,kl=Qn m x.m 0 ls:=⟨_,rfl⟩
    obtain⟨gl,hgl⟩:∃gl,gl=Xz m x old:=⟨_,rfl⟩
    obtain⟨sl,hsl⟩:∃sl,sl=Zba m x old:=⟨_,rfl⟩
    have hw2W:w2.1.size<=W.1.size:=Nat.le_trans HW24.out HW4.out;have hn1000:n<=1000:=by rw[HS.out.1];exact HLO.out.len
    have HKP:=jq (show ∀X,Bw W X->Calls Tryz.prog 66 #[.agg pb,.slice A n c] X (RetOwn L7 7 50 X.1.size X kl) from fun X hX=>by
     have h:=ZlP v x old pn pm pf pp w2.1.size A n c ls X (HKW.out.here hX).pw (HMW.out.below (hX.mono hw2W)) (by have:=hX.size;omega) HPS.out.sz (HS.out.here (HKW.out.here hX).bl) HSL.out hn1000 (by rw[HVM.out];exact HCP.out);rw[Yt,HPB.out,HVM.out,<-hkl] at h;exact h)
    have HGA:=jq (show ∀X,Bw W X->Calls Tryz.prog 67 #[.agg pb] X (RetOwn G10 10 47 X.1.size X gl) from fun X hX=>by
     have h:=ZjI v x old pn pm pf pp w2.1.size X (HKW.out.here hX).pw (HMW.out.below (hX.mono hw2W)) (by have:=hX.size;omega) ((Xe HPK.out.part).more (by have:=HLL.out.1;omega)) HLO1.out;rw[Yt,HPB.out,HVM.out,<-hgl] at h;exact h)
    have HST:=jq (show ∀X,Bw W X->Calls Tryz.prog 68 #[.agg pb] X (RetOwn S6 6 173 X.1.size X sl) from fun X hX=>by
     have h:=ZhQ v x old pn pm pf pp w2.1.size X (HKW.out.here hX).pw (HMW.out.below (hX.mono hw2W)) (by have:=hX.size;omega) HPS.out HLO1.out (by rw[HVM.out];have:=HCZ.out;omega);rw[Yt,HPB.out,HVM.out,<-hsl] at h;exact h)
    have HKL:=jq hkl;have HGL:=jq hgl;have HSTL:=jq hsl;have HWW:=jq (show w.1.size<=W.1.size from HKW.out.bl.size);have HSX:=jq (show ∀X,Bw W X->X.cell? ⟨w.1.size,0,none⟩=some (.slice A n c)/\(Zcf (.pointer (some ⟨w2.1.size,0,none⟩))).run Tryz.prog X=.ok (.agg pb) X from fun X hX=>⟨(HKW.out.here hX).c 4 0 rfl rfl,XO ((HKW.out.here hX).at_ 0 rfl) ES.out⟩);have HSX2:=jq (show ∀X P a b c' d,Bw W X->BlkB X P #[.slice none 0 0,.slice none 0 0,.slice none 0 0,.slice none 0 0] 37->W.1.size<=P->(((((X.setCell ⟨P,0,none⟩ a).setCell ⟨P,1,none⟩ b).setCell ⟨P,2,none⟩ c').setCell ⟨P,3,none⟩ d).cell? ⟨w.1.size,0,none⟩=some (.slice A n c)/\(Zcf (.pointer (some ⟨w2.1.size,0,none⟩))).run Tryz.prog ((((X.setCell ⟨P,0,none⟩ a).setCell ⟨P,1,none⟩ b).setCell ⟨P,2,none⟩ c').setCell ⟨P,3,none⟩ d)=.ok (.agg pb) ((((X.setCell ⟨P,0,none⟩ a).setCell ⟨P,1,none⟩ b).setCell ⟨P,2,none⟩ c').setCell ⟨P,3,none⟩ d)) from fun X P a b c' d hX hP hq=>HSX.out _ (Bw.set (Bw.set (Bw.set (Bw.set hX hq 0 a) hq 1 b) hq 2 c') hq 3 d));clear hkl hgl hsl hw2W hn1000;go_upto_region 11 with (fail)
    go_cut [11] from 44 to 68 (fun p wc=>∃P11 Ak ck Ag cg As cs,p=.pointer (some ⟨P11,0,none⟩)/\Hid (BlkB wc P11 #[.slice Ak kl.length ck,.slice Ag gl.length cg,.slice As sl.length cs,.slice none 0 0] 37)/\Hid (Own L7 7 50 wc w.1.size (.slice Ak kl.length ck) kl)/\Hid (Own G10 10 47 wc w.1.size (.slice Ag gl.length cg) gl)/\Hid (Own S6 6 173 wc w.1.size (.slice As sl.length cs) sl)/\Hid (Bw W wc)/\Hid (W.1.size<=P11))
    case first=>
     have b0:Bw W W.drew:=Bw.drew (Bw.refl W);have b0a:Bw W (W.alloc (.cells #[.slice none 0 0,.slice none 0 0,.slice none 0 0,.slice none 0 0] 37)).drew:=Bw.drew (Bw.alloc (Bw.refl W) _);obtain⟨s00,s01⟩:=HSX.out _ (Bw.refl W)
     have s0:=HSX.out _ b0;unfold RetOwn at HKP HGA HST
     go_region_held3 (fun X=>X.cell? ⟨w.1.size,0,none⟩=some (.slice A n c)/\(Zcf (.pointer (some ⟨w2.1.size,0,none⟩))).run Tryz.prog X=.ok (.agg pb) X)
      (first
        |with_reducible exact HSX2.out _ _ _ _ _ _ b3 p3 q3
        |with_reducible exact HSX.out _ b3
        |with_reducible exact HSX.out _ (Bw.alloc b3 _)
        |with_reducible exact HSX.out _ (Bw.set (Bw.set (Bw.set (Bw.set (Bw.alloc b3 _) b3.size 0 _) b3.size 1 _) b3.size 2 _) b3.size 3 _)
        |with_reducible exact HSX.out _ b2a
        |with_reducible exact HSX.out _ b2
        |with_reducible exact HSX.out _ b1a
        |with_reducible exact HSX.out _ b1
        |with_reducible exact HSX.out _ b0a
        |with_reducible exact HSX.out _ b0
        |go_keep)
      (first
      |(go_at_call 66;first
         |(refine(HKP.out _ b2a).mono ?_;rintro e y3 ⟨Ak,ck,rfl,ho,hb⟩
           have b3:=Bw.call b2a hb;have oK3:=ho.base_ (Nat.le_trans HWW.out b2a.size)
           try have oG3:=((oG2.alloc (.cells #[.slice none 0 0,.slice none 0 0,.slice none 0 0,.slice none 0 0] 37))).below hb
           try have oS3:=((oS2.alloc (.cells #[.slice none 0 0,.slice none 0 0,.slice none 0 0,.slice none 0 0] 37))).below hb
           have p3:BlkB y3 y2.1.size #[.slice none 0 0,.slice none 0 0,.slice none 0 0,.slice none 0 0] 37:=BlkB.here (w:=y2.alloc (.cells #[.slice none 0 0,.slice none 0 0,.slice none 0 0,.slice none 0 0] 37)) (heap_alloc_new _ _) hb;have q3:W.1.size<=y2.1.size:=b2.size
           try (have n0:=p3.cell 0 rfl;have n1:=p3.cell 1 rfl;have n2:=p3.cell 2 rfl;have n3:=p3.cell 3 rfl;have f0:=p3.frozen 0;have f1:=p3.frozen 1;have f2:=p3.frozen 2;have f3:=p3.frozen 3)
           clear ho hb)
         |(refine(HKP.out _ b2).mono ?_;rintro e y3 ⟨Ak,ck,rfl,ho,hb⟩
           have b3:=Bw.call b2 hb;have oK3:=ho.base_ (Nat.le_trans HWW.out b2.size)
           try have oG3:=(oG2).below hb
           try have oS3:=(oS2).below hb
           first|(have p3:=BlkB.here p2 hb;have q3:=q2)|(have b3a:=Bw.alloc b3 (.cells #[.slice none 0 0,.slice none 0 0,.slice none 0 0,.slice none 0 0] 37))
           try (have n0:=p3.cell 0 rfl;have n1:=p3.cell 1 rfl;have n2:=p3.cell 2 rfl;have n3:=p3.cell 3 rfl;have f0:=p3.frozen 0;have f1:=p3.frozen 1;have f2:=p3.frozen 2;have f3:=p3.frozen 3)
           clear ho hb)
         |(refine(HKP.out _ b1a).mono ?_;rintro e y2 ⟨Ak,ck,rfl,ho,hb⟩
           have b2:=Bw.call b1a hb;have oK2:=ho.base_ (Nat.le_trans HWW.out b1a.size)
           try have oG2:=((oG1.alloc (.cells #[.slice none 0 0,.slice none 0 0,.slice none 0 0,.slice none 0 0] 37))).below hb
           try have oS2:=((oS1.alloc (.cells #[.slice none 0 0,.slice none 0 0,.slice none 0 0,.slice none 0 0] 37))).below hb
           have p2:BlkB y2 y1.1.size #[.slice none 0 0,.slice none 0 0,.slice none 0 0,.slice none 0 0] 37:=BlkB.here (w:=y1.alloc (.cells #[.slice none 0 0,.slice none 0 0,.slice none 0 0,.slice none 0 0] 37)) (heap_alloc_new _ _) hb;have q2:W.1.size<=y1.1.size:=b1.size;clear ho hb)
         |(refine(HKP.out _ b1).mono ?_;rintro e y2 ⟨Ak,ck,rfl,ho,hb⟩
           have b2:=Bw.call b1 hb;have oK2:=ho.base_ (Nat.le_trans HWW.out b1.size)
           try have oG2:=(oG1).below hb
           try have oS2:=(oS1).below hb
           first|(have p2:=BlkB.here p1 hb;have q2:=q1)|(have b2a:=Bw.alloc b2 (.cells #[.slice none 0 0,.slice none 0 0,.slice none 0 0,.slice none 0 0] 37))
           clear ho hb)
         |(refine(HKP.out _ b0a).mono ?_;rintro e y1 ⟨Ak,ck,rfl,ho,hb⟩
           have b1:=Bw.call b0a hb;have oK1:=ho.base_ (Nat.le_trans HWW.out b0a.size);have p1:BlkB y1 W.1.size #[.slice none 0 0,.slice none 0 0,.slice none 0 0,.slice none 0 0] 37:=BlkB.here (w:=(W.alloc (.cells #[.slice none 0 0,.slice none 0 0,.slice none 0 0,.slice none 0 0] 37)).drew) (heap_alloc_new _ _) hb;have q1:W.1.size<=W.1.size:=Nat.le_refl _;clear ho hb)
         |(refine(HKP.out _ b0).mono ?_;rintro e y1 ⟨Ak,ck,rfl,ho,hb⟩
           have b1:=Bw.call b0 hb;have oK1:=ho.base_ (Nat.le_trans HWW.out b0.size);have b1a:=Bw.alloc b1 (.cells #[.slice none 0 0,.slice none 0 0,.slice none 0 0,.slice none 0 0] 37);clear ho hb))
      |(go_at_call 67;first
         |(refine(HGA.out _ b2a).mono ?_;rintro e y3 ⟨Ag,cg,rfl,ho,hb⟩
           have b3:=Bw.call b2a hb;have oG3:=ho.base_ (Nat.le_trans HWW.out b2a.size)
           try have oK3:=((oK2.alloc (.cells #[.slice none 0 0,.slice none 0 0,.slice none 0 0,.slice none 0 0] 37))).below hb
           try have oS3:=((oS2.alloc (.cells #[.slice none 0 0,.slice none 0 0,.slice none 0 0,.slice none 0 0] 37))).below hb
           have p3:BlkB y3 y2.1.size #[.slice none 0 0,.slice none 0 0,.slice none 0 0,.slice none 0 0] 37:=BlkB.here (w:=y2.alloc (.cells #[.slice none 0 0,.slice none 0 0,.slice none 0 0,.slice none 0 0] 37)) (heap_alloc_new _ _) hb;have q3:W.1.size<=y2.1.size:=b2.size
           try (have n0:=p3.cell 0 rfl;have n1:=p3.cell 1 rfl;have n2:=p3.cell 2 rfl;have n3:=p3.cell 3 rfl;have f0:=p3.frozen 0;have f1:=p3.frozen 1;have f2:=p3.frozen 2;have f3:=p3.frozen 3)
           clear ho hb)
         |(refine(HGA.out _ b2).mono ?_;rintro e y3 ⟨Ag,cg,rfl,ho,hb⟩
           have b3:=Bw.call b2 hb;have oG3:=ho.base_ (Nat.le_trans HWW.out b2.size)
           try have oK3:=(oK2).below hb
           try have oS3:=(oS2).below hb
           first|(have p3:=BlkB.here p2 hb;have q3:=q2)|(have b3a:=Bw.alloc b3 (.cells #[.slice none 0 0,.slice none 0 0,.slice none 0 0,.slice none 0 0] 37))
           try (have n0:=p3.cell 0 rfl;have n1:=p3.cell 1 rfl;have n2:=p3.cell 2 rfl;have n3:=p3.cell 3 rfl;have f0:=p3.frozen 0;have f1:=p3.frozen 1;have f2:=p3.frozen 2;have f3:=p3.frozen 3)
           clear ho hb)
         |(refine(HGA.out _ b1a).mono ?_;rintro e y2 ⟨Ag,cg,rfl,ho,hb⟩
           have b2:=Bw.call b1a hb;have oG2:=ho.base_ (Nat.le_trans HWW.out b1a.size)
           try have oK2:=((oK1.alloc (.cells #[.slice none 0 0,.slice none 0 0,.slice none 0 0,.slice none 0 0] 37))).below hb
           try have oS2:=((oS1.alloc (.cells #[.slice none 0 0,.slice none 0 0,.slice none 0 0,.slice none 0 0] 37))).below hb
           have p2:BlkB y2 y1.1.size #[.slice none 0 0,.slice none 0 0,.slice none 0 0,.slice none 0 0] 37:=BlkB.here (w:=y1.alloc (.cells #[.slice none 0 0,.slice none 0 0,.slice none 0 0,.slice none 0 0] 37)) (heap_alloc_new _ _) hb;have q2:W.1.size<=y1.1.size:=b1.size;clear ho hb)
         |(refine(HGA.out _ b1).mono ?_;rintro e y2 ⟨Ag,cg,rfl,ho,hb⟩
           have b2:=Bw.call b1 hb;have oG2:=ho.base_ (Nat.le_trans HWW.out b1.size)
           try have oK2:=(oK1).below hb
           try have oS2:=(oS1).below hb
           first|(have p2:=BlkB.here p1 hb;have q2:=q1)|(have b2a:=Bw.alloc b2 (.cells #[.slice none 0 0,.slice none 0 0,.slice none 0 0,.slice none 0 0] 37))
           clear ho hb)
         |(refine(HGA.out _ b0a).mono ?_;rintro e y1 ⟨Ag,cg,rfl,ho,hb⟩
           have b1:=Bw.call b0a hb;have oG1:=ho.base_ (Nat.le_trans HWW.out b0a.size);have p1:BlkB y1 W.1.size #[.slice none 0 0,.slice none 0 0,.slice none 0 0,.slice none 0 0] 37:=BlkB.here (w:=(W.alloc (.cells #[.slice none 0 0,.slice none 0 0,.slice none 0 0,.slice none 0 0] 37)).drew) (heap_alloc_new _ _) hb;have q1:W.1.size<=W.1.size:=Nat.le_refl _;clear ho hb)
         |(refine(HGA.out _ b0).mono ?_;rintro e y1 ⟨Ag,cg,rfl,ho,hb⟩
           have b1:=Bw.call b0 hb;have oG1:=ho.base_ (Nat.le_trans HWW.out b0.size);have b1a:=Bw.alloc b1 (.cells #[.slice none 0 0,.slice none 0 0,.slice none 0 0,.slice none 0 0] 37);clear ho hb))
      |(go_at_call 68;first
         |(refine(HST.out _ b2a).mono ?_;rintro e y3 ⟨As,cs,rfl,ho,hb⟩
           have b3:=Bw.call b2a hb;have oS3:=ho.base_ (Nat.le_trans HWW.out b2a.size)
           try have oK3:=((oK2.alloc (.cells #[.slice none 0 0,.slice none 0 0,.slice none 0 0,.slice none 0 0] 37))).below hb
           try have oG3:=((oG2.alloc (.cells #[.slice none 0 0,.slice none 0 0,.slice none 0 0,.slice none 0 0] 37))).below hb
           have p3:BlkB y3 y2.1.size #[.slice none 0 0,.slice none 0 0,.slice none 0 0,.slice none 0 0] 37:=BlkB.here (w:=y2.alloc (.cells #[.slice none 0 0,.slice none 0 0,.slice none 0 0,.slice none 0 0] 37)) (heap_alloc_new _ _) hb;have q3:W.1.size<=y2.1.size:=b2.size
           try (have n0:=p3.cell 0 rfl;have n1:=p3.cell 1 rfl;have n2:=p3.cell 2 rfl;have n3:=p3.cell 3 rfl;have f0:=p3.frozen 0;have f1:=p3.frozen 1;have f2:=p3.frozen 2;have f3:=p3.frozen 3)
           clear ho hb)
         |(refine(HST.out _ b2).mono ?_;rintro e y3 ⟨As,cs,rfl,ho,hb⟩
           have b3:=Bw.call b2 hb;have oS3:=ho.base_ (Nat.le_trans HWW.out b2.size)
           try have oK3:=(oK2).below hb
           try have oG3:=(oG2).below hb
           first|(have p3:=BlkB.here p2 hb;have q3:=q2)|(have b3a:=Bw.alloc b3 (.cells #[.slice none 0 0,.slice none 0 0,.slice none 0 0,.slice none 0 0] 37))
           try (have n0:=p3.cell 0 rfl;have n1:=p3.cell 1 rfl;have n2:=p3.cell 2 rfl;have n3:=p3.cell 3 rfl;have f0:=p3.frozen 0;have f1:=p3.frozen 1;have f2:=p3.frozen 2;have f3:=p3.frozen 3)
           clear ho hb)
         |(refine(HST.out _ b1a).mono ?_;rintro e y2 ⟨As,cs,rfl,ho,hb⟩
           have b2:=Bw.call b1a hb;have oS2:=ho.base_ (Nat.le_trans HWW.out b1a.size)
           try have oK2:=((oK1.alloc (.cells #[.slice none 0 0,.slice none 0 0,.slice none 0 0,.slice none 0 0] 37))).below hb
           try have oG2:=((oG1.alloc (.cells #[.slice none 0 0,.slice none 0 0,.slice none 0 0,.slice none 0 0] 37))).below hb
           have p2:BlkB y2 y1.1.size #[.slice none 0 0,.slice none 0 0,.slice none 0 0,.slice none 0 0] 37:=BlkB.here (w:=y1.alloc (.cells #[.slice none 0 0,.slice none 0 0,.slice none 0 0,.slice none 0 0] 37)) (heap_alloc_new _ _) hb;have q2:W.1.size<=y1.1.size:=b1.size;clear ho hb)
         |(refine(HST.out _ b1).mono ?_;rintro e y2 ⟨As,cs,rfl,ho,hb⟩
           have b2:=Bw.call b1 hb;have oS2:=ho.base_ (Nat.le_trans HWW.out b1.size)
           try have oK2:=(oK1).below hb
           try have oG2:=(oG1).below hb
           first|(have p2:=BlkB.here p1 hb;have q2:=q1)|(have b2a:=Bw.alloc b2 (.cells #[.slice none 0 0,.slice none 0 0,.slice none 0 0,.slice none 0 0] 37))
           clear ho hb)
         |(refine(HST.out _ b0a).mono ?_;rintro e y1 ⟨As,cs,rfl,ho,hb⟩
           have b1:=Bw.call b0a hb;have oS1:=ho.base_ (Nat.le_trans HWW.out b0a.size);have p1:BlkB y1 W.1.size #[.slice none 0 0,.slice none 0 0,.slice none 0 0,.slice none 0 0] 37:=BlkB.here (w:=(W.alloc (.cells #[.slice none 0 0,.slice none 0 0,.slice none 0 0,.slice none 0 0] 37)).drew) (heap_alloc_new _ _) hb;have q1:W.1.size<=W.1.size:=Nat.le_refl _;clear ho hb)
         |(refine(HST.out _ b0).mono ?_;rintro e y1 ⟨As,cs,rfl,ho,hb⟩
           have b1:=Bw.call b0 hb;have oS1:=ho.base_ (Nat.le_trans HWW.out b0.size);have b1a:=Bw.alloc b1 (.cells #[.slice none 0 0,.slice none 0 0,.slice none 0 0,.slice none 0 0] 37);clear ho hb)))
     all_goals
      go_wp2_with fail
      go_meet
      first
       |exact⟨_,Ak,ck,Ag,cg,As,cs,rfl,(((p3.set 0 (.slice Ak kl.length ck)).set 1 (.slice Ag gl.length cg)).set 2 (.slice As sl.length cs)).set 3 (.slice none 0 0),(((oK3.farB p3 (by decide) 0 (.slice Ak kl.length ck)).farB (p3.set 0 (.slice Ak kl.length ck)) (by decide) 1 (.slice Ag gl.length cg)).farB ((p3.set 0 (.slice Ak kl.length ck)).set 1 (.slice Ag gl.length cg)) (by decide) 2 (.slice As sl.length cs)).farB (((p3.set 0 (.slice Ak kl.length ck)).set 1 (.slice Ag gl.length cg)).set 2 (.slice As sl.length cs)) (by decide) 3 (.slice none 0 0),(((oG3.farB p3 (by decide) 0 (.slice Ak kl.length ck)).farB (p3.set 0 (.slice Ak kl.length ck)) (by decide) 1 (.slice Ag gl.length cg)).farB ((p3.set 0 (.slice Ak kl.length ck)).set 1 (.slice Ag gl.length cg)) (by decide) 2 (.slice As sl.length cs)).farB (((p3.set 0 (.slice Ak kl.length ck)).set 1 (.slice Ag gl.length cg)).set 2 (.slice As sl.length cs)) (by decide) 3 (.slice none 0 0),(((oS3.farB p3 (by decide) 0 (.slice Ak kl.length ck)).farB (p3.set 0 (.slice Ak kl.length ck)) (by decide) 1 (.slice Ag gl.length cg)).farB ((p3.set 0 (.slice Ak kl.length ck)).set 1 (.slice Ag gl.length cg)) (by decide) 2 (.slice As sl.length cs)).farB (((p3.set 0 (.slice Ak kl.length ck)).set 1 (.slice Ag gl.length cg)).set 2 (.slice As sl.length cs)) (by decide) 3 (.slice none 0 0),Bw.set (Bw.set (Bw.set (Bw.set b3 q3 0 (.slice Ak kl.length ck)) q3 1 (.slice Ag gl.length cg)) q3 2 (.slice As sl.length cs)) q3 3 (.slice none 0 0),q3⟩
       |exact⟨_,Ak,ck,Ag,cg,As,cs,rfl,heap_alloc_new _ _,oK3.alloc _,oG3.alloc _,oS3.alloc _,Bw.alloc b3 _,b3.size⟩
    case rest=>
    obtain⟨P11,Ak,ck,Ag,cg,As,cs,rfl,HP11,HOK,HOG,HOS,HBW,HQ11⟩:=hcut
    clear HKP HGA HST HSX HSX2;have HKC:=jq (HKW.out.here HBW.out);have hld:=XO (HKC.out.at_ 0 rfl) ES.out;go_wp2_with fail
    refine(HFRE.out _).mono ?_;rintro e w8 ⟨rfl,rfl⟩;go_wp2_with fail
    have hK7:=HKC.out.alloc (.cells pb 117);have hBX2:BlkB (wc.alloc (.cells pb 117)) wc.1.size (QN v) 117:=by rw[HPB.out];exact heap_alloc_new wc _
    have hwcs:W.1.size<=wc.1.size:=Bw.size HBW.out;have hn0c:w2.1.size<=wc.1.size:=Nat.le_trans (Nat.le_trans HW24.out HW4.out) hwcs;have hsz7:(wc.alloc (.cells pb 117)).heap.size=wc.1.size+1:=by simp
    have hM7:=HMW.out.below ((Bw.mono (Bw.alloc HBW.out (.cells pb 117)) (Nat.le_trans HW24.out HW4.out)));have hp11l:=HP11.out.lt;have HSEQ:=jq (JN 4 (by omega) (fun b=>b≠P11/\b<(wc.alloc (.cells pb 117)).heap.size) wc.1.size w2.1.size v x old pn pm pf pp (wc.alloc (.cells pb 117)) hK7.pw hBX2 hM7 HPS.out (by omega) (by have:=HLO1.out;omega) (by rw[HVM.out];have:=HCZ.out;omega) (fun b hb=>by have h1:=HQ11.out;have h2:=HW4.out;have h3:=HW24.out;have hb:b<w2.1.size:=hb;exact⟨by omega,by omega⟩) ⟨by omega,by omega⟩ (fun X X' he hk=>Zb8 HP.out (S:=fun b=>b<w.1.size) (fun b hb=>hb) X X' he ⟨hk.1,fun b hb hl=>hk.2 b ⟨by have h1:=HQ11.out;have h2:=HWW.out;have hb:b<w.1.size:=hb;omega,by have h1:=HKC.out.bl.size;have hb:b<w.1.size:=hb;omega⟩ hl⟩));rw[HVM.out] at HSEQ;have HK7:=jq hK7;have HP7:=jq (HP11.out.alloc (.cells pb 117));have HO7:=jq (HOK.out.alloc (.cells pb 117));have HG7:=jq (HOG.out.alloc (.cells pb 117));have HS7:=jq (HOS.out.alloc (.cells pb 117));have HB7:=jq (Bw.alloc HBW.out (.cells pb 117));have HSZ7:=jq (show w.1.size<=(wc.alloc (.cells pb 117)).heap.size from hK7.bl.size);have HPL7:=jq (show P11<(wc.alloc (.cells pb 117)).heap.size/\W.1.size<=(wc.alloc (.cells pb 117)).heap.size by omega);have HOP:=jq (show OpA kl [] kl from⟨rfl,by rw[HKL.out];exact Nat.le_trans (Zcj m x.m 0 ls) HLO.out.len,by rw[HKL.out];exact ZgG HPK.out.m (by have:=HLL.out.1;omega) 0 ls (fun y hy=>⟨HSL.out y hy,by have:=HLL.out.2.2.2 y hy;omega⟩)⟩)
    have HD7:=jq (show D<(wc.alloc (.cells pb 117)).heap.size/\D≠P11/\(wc.alloc (.cells pb 117)).heap[D]?=some (.deferred (some [])) from by
     have hd:=(Array.getElem?_eq_some_iff.1 HDD.out).1;have hq:=HQ11.out;exact⟨by omega,by omega,((Bw.alloc HBW.out (.cells pb 117)).block D hd).trans HDD.out⟩)
    clear hK7 hBX2 hwcs hn0c hsz7 hM7 hp11l hld;obtain⟨B8,hB8⟩:∃B8,B8=wc.1.size:=⟨_,rfl⟩
    rw[<-hB8] at HSEQ ⊢;clear hB8;generalize wc.alloc (.cells pb 117)=W7 at*;refine(wpIn_wide (n:=5)).1 ?_
    refine wpIn_rangeFunc_ownH (α:={z:Nat×Lot//z∈QE m x old}) (F:=Fence.wide) (n:=5) rfl (by omega) (gf:=107) (lb:=#[.pointer (some ⟨B8,0,none⟩)]) rfl trivial (enters_of Tryz.func107 (by kernel_rfl) rfl)
     HSEQ.out (fun h k=>h.trans k) ?hKb (Below.refl _ _) (fun _=>rfl)
     (fun(pre:List {z:Nat×Lot//z∈QE m x old}) X=>Kp3 P11 P11 W7 X/\∃A1 c1 L1,OpA kl ((Xn pre).map (·.2)) L1/\BlkB X P11 #[.slice A1 L1.length c1,.slice Ag gl.length cg,.slice As sl.length cs,.slice none 0 0] 37/\Own L7 7 50 X w.1.size (.slice A1 L1.length c1) L1)
     (fun c pre X=>c=.ret/\Xf kl ((Xn pre).map (·.2))=none/\MapFin (Res.none,4) w (w.1.size+1+1) (w.1.size+1+1+1) X/\X.heap[D]?=some (.deferred (some [])))
     (fun pre X X' row ⟨h1,A1,c1,L1,h2,h3,h4⟩ hg hr=>⟨h1.add hg.os hg.tape hg.output hg.size (fun b hb _ hne=>hg.block b hb hne) (fun g e=>(hr g e).1),A1,c1,L1,h2,h3.turned hg hr,h4.turned hg hr⟩)
     (fun c pre X X' row ⟨h1,h2,h3,h4⟩ hg hr=>⟨h1,h2,h3.turned hg hr HSZ7.out,(hg.block D (Array.getElem?_eq_some_iff.1 h4).1 (fun e=>by have:=(hr D e.symm).1;have:=HD7.out.1;omega)).trans h4⟩) ⟨Kp3.refl _ _ _,Ak,ck,kl,HOP.out,HP7.out,HO7.out⟩
     (fun x a' X=>∃Bz,W7.1.size<=Bz/\BlkB X Bz (XU x.1.2) 50/\a'={tmps:=#[Value.slice A n c,.agg #[.string ⟨m.cause.toArray⟩,.int .i64 m.day,.string ⟨m.inst.toArray⟩,.string ⟨m.other.toArray⟩,.string ⟨m.ratio.n.toArray⟩,.string ⟨m.ratio.d.toArray⟩,.string ⟨m.share.n.toArray⟩,.string ⟨m.share.d.toArray⟩,.string ⟨m.price.n.toArray⟩,.string ⟨m.price.d.toArray⟩,.bool m.keep],.pointer (some ⟨w.1.size,0,none⟩),.pointer (some ⟨w.1.size+1,0,none⟩),.pointer (some ⟨w.1.size+1+1,0,none⟩),.pointer (some ⟨w.1.size+1+1+1,0,none⟩),.pointer (some ⟨w2.1.size,0,none⟩),undef,undef,undef,undef,.pointer (some ⟨P11,0,none⟩),undef,.pointer (some ⟨Bz,0,none⟩),undef,undef,.slice A n c,.agg #[.string ⟨m.cause.toArray⟩,.int .i64 m.day,.string ⟨m.inst.toArray⟩,.string ⟨m.other.toArray⟩,.string ⟨m.ratio.n.toArray⟩,.string ⟨m.ratio.d.toArray⟩,.string ⟨m.share.n.toArray⟩,.string ⟨m.share.d.toArray⟩,.string ⟨m.price.n.toArray⟩,.string ⟨m.price.d.toArray⟩,.bool m.keep],.bool true,.bool false,undef,.slice A n c,.agg #[.string ⟨m.cause.toArray⟩,.int .i64 m.day,.string ⟨m.inst.toArray⟩,.string ⟨m.other.toArray⟩,.string ⟨m.ratio.n.toArray⟩,.string ⟨m.ratio.d.toArray⟩,.string ⟨m.share.n.toArray⟩,.string ⟨m.share.d.toArray⟩,.string ⟨m.price.n.toArray⟩,.string ⟨m.price.d.toArray⟩,.bool m.keep],.agg pb,.pointer (some ⟨w2.1.size,11,none⟩),.slice v.oA N v.oc,.int .i64 N,.bool false,undef,undef,undef,.agg pb,.func (.func 107) #[] #[.pointer (some ⟨B3,0,none⟩)],undef,undef,undef,undef,undef,undef,undef,undef,undef,undef,undef,u44,u45,u46,u47,u48,u49,u50,u51,.agg pb,.func (.func 107) #[] #[.pointer (some ⟨B8,0,none⟩)],.int .i64 x.1.1,XV x.1.2,u56,u57,u58,u59,u60,u61,u62,u63,u64,u65,u66,u67,u68],defers:=[]})
     (fun x a' _ X X' row ⟨Bz,h1,h2,h3⟩ hg hr=>⟨Bz,h1,h2.turned hg hr,h3⟩) ?assign ?body ?done ?stop
    case hKb=>
     intro X l o o' hl _ _ _;exact KeepS.put (fun e=>by have:=e.2;omega) _
    case assign=>
     rintro lr pre x X K ⟨h1,h2⟩ hK
     dsimp only[XV,S]
     gi_wp2
     exact hK _ _ ((KeepsOthers.alloc _ _).from _) (KeepS.below ((Below.refl _ X).alloc (Nat.le_refl _) _)) ⟨h1.alloc _,by obtain⟨A1,c1,L1,h3,h4,h5⟩:=h2;exact⟨A1,c1,L1,h3,h4.alloc _,h5.alloc _⟩⟩ ⟨X.1.size,h1.size,heap_alloc_new X _,rfl⟩
    case stop=>
     rintro D2 c pre X hD2 hpre ⟨rfl,hno,hF,hDX⟩ hK2
     have hres:res=(Res.none,4):=by
      rw[HGO.out HV1.out HV2.out HOL.out HFREE.out,<-HKL.out];obtain⟨t,ht⟩:=hpre
      have ht:Xn pre++t=QE m x old:=ht;rw[<-ht,List.map_append,Zfw _ hno]
     have hDne:D≠D2:=by have:=HD7.out.1;omega
     gi_wp2
     rw[HPO.out,hres];have hF1:=hF.put (Nat.le_trans HSZ7.out hD2) hK2;have hD1:(X.putObj D2 (.deferred none)).heap[D]?=some (.deferred (some [])):=(World.putObj_heap_other hDne).trans hDX;exact⟨by simp,.inl ⟨_,_,rfl,run_takeDeferred hK2,by simp,.inl ⟨_,_,rfl,run_takeDeferred hD1,(hF1.put (Nat.le_trans HWB.out HDL.out) hD1).leave rfl rfl⟩⟩⟩
    case body=>
     rintro lr pre z a' X hlr ⟨rr,hrr⟩ ⟨h1,A1,c1,L1,h2,h3,h4⟩ ⟨Bz,hBz,bZ,rfl⟩ hlen;have hW34:W3.1.size<=W.1.size:=Nat.le_trans HW34.out HW4.out;have HW3W:=jq hW34;have HKX:=jq (HK7.out.kp3 h1 (fun b hb=>by simp only[List.mem_cons,List.mem_nil_iff,or_false] at hb;have h1:=HQ11.out;have h2:=HK4.out.lt 0 rfl;have h3:=HK4.out.lt 1 rfl;have h6:=HW34.out;rcases hb with rfl|rfl|rfl|rfl|rfl<;>(show _≠P11;omega)) (Nat.le_trans HWW.out HQ11.out))
     have hzs:z.1.2.Sz 50000:=by
      obtain⟨y,hy,e⟩:=ZhN z.2
      rw[e];have hlt:=(List.getElem?_eq_some_iff.1 hy).1;exact Ziw HPK.out HCZ.out (ZcW HMO.out.other) (HOO.out y (List.mem_of_getElem? hy)) (by have:=HLL.out.1;omega) (by have:=HLO1.out;omega)
     have HOPN:=jq (Zl1 A1 L1.length c1 L1 z.1.2 X HKX.out.pw (h4.sl Ql) h2.sz hzs (by have:=h2.len;omega) (Znm h4));have HNX:=jq (fun h0=>OpA.next (z:=z.1.2) h2 hzs h0);have HNO:=jq (ZbI z.1.2 h2.o);have HSN:=jq (show(Xn (pre++[z])).map (·.2)=(Xn pre).map (·.2)++[z.1.2] by rw[Jn,List.map_append];rfl);have H1:=jq h1;have H3:=jq h3;have H4:=jq h4;generalize Yj L1 z.1.2=ol at*;have n0:=h3.cell 0 rfl;obtain⟨q0,q1,q2,q3,q4,q5,q6⟩:=s7b bZ
     clear h1 h2 h3 h4 bZ hrr hlen hzs hW34;unfold RetOwn2 XV at HOPN;unfold S at HOPN
     dsimp only[XV,S]
     gi_wp2
     refine⟨trivial,CallsIn.inRound _ ((callsIn_wide.2 HOPN.out).mono ?_)⟩;rintro e y6 ⟨A2,c2,rfl,ho2,hb6⟩;have HO2:=jq ho2;have HB6:=jq hb6;have HK6:=jq (HKX.out.here hb6);have HP6:=jq (H3.out.here hb6);have HXS:=jq (show w.1.size<=X.1.size from HKX.out.bl.size);clear n0 q0 q1 q2 q3 q4 q5 q6 ho2 hb6
     by_cases h0:ol.2=0
     ·have hne:(ol.2 !=0)=false:=by rw[h0];rfl
      have HN2:=jq (HNX.out h0);have n0:=HP6.out.cell 0 rfl;have f0:=HP6.out.frozen 0;clear h0
      gi_wp2
      refine⟨(JY HB6.out _).trans ((KeepsOthers.setCell _ _ _).from _),(KeepS.below HB6.out).trans (KeepS.set (S:=fun b=>b≠P11/\b<W7.1.size) (p:=⟨P11,0,none⟩) (fun e=>e.1 rfl) _),(H1.out.below HB6.out).set2 0 _,A2,c2,ol.1,?_,HP6.out.set 0 _,(HO2.out.base_ HXS.out).farB HP6.out (by decide) 0 _⟩;rw[HSN.out];exact HN2.out
     ·have hne:(ol.2 !=0)=true:=by simpa using h0
      rw[if_pos h0] at HNO;clear h0;have n0:=HK6.out.c 2 0 rfl rfl;have n1:=HK6.out.c 2 1 rfl rfl;have n2:=HK6.out.c 2 2 rfl rfl;have n3:=HK6.out.c 2 3 rfl rfl;have n4:=HK6.out.c 1 0 rfl rfl;have f0:=HK6.out.f 2 0 rfl;have f1:=HK6.out.f 2 1 rfl;have f2:=HK6.out.f 2 2 rfl;have f3:=HK6.out.f 2 3 rfl;have f4:=HK6.out.f 1 0 rfl
      have HF:=jq (show MapFin (Res.none,4) w (w.1.size+1+1) (w.1.size+1+1+1) (((((y6.setCell ⟨w.1.size+1+1,0,none⟩ (.slice none 0 0)).setCell ⟨w.1.size+1+1,1,none⟩ (.slice none 0 0)).setCell ⟨w.1.size+1+1,2,none⟩ (.slice none 0 0)).setCell ⟨w.1.size+1+1,3,none⟩ (.slice none 0 0)).setCell ⟨w.1.size+1+1+1,0,none⟩ (.int .i64 4)) from by
       have h:=((((HK6.out.set 2 0 rfl (.slice none 0 0)).set 2 1 rfl (.slice none 0 0)).set 2 2 rfl (.slice none 0 0)).set 2 3 rfl (.slice none 0 0)).set 1 0 rfl (.int .i64 4);exact⟨none,0,none,0,none,0,h.at_ 2 rfl,h.at_ 1 rfl,Own.nil,Own.nil,Own.nil,h.bl⟩)
      have HDY:=jq (show(((((y6.setCell ⟨w.1.size+1+1,0,none⟩ (.slice none 0 0)).setCell ⟨w.1.size+1+1,1,none⟩ (.slice none 0 0)).setCell ⟨w.1.size+1+1,2,none⟩ (.slice none 0 0)).setCell ⟨w.1.size+1+1,3,none⟩ (.slice none 0 0)).setCell ⟨w.1.size+1+1+1,0,none⟩ (.int .i64 4)).heap[D]?=some (.deferred (some [])) from by
       have hd1:D≠w.1.size+1+1/\D≠w.1.size+1+1+1:=by
        have h1:=HDL.out;have h2:=HK4.out.lt 1 rfl;have h3:=HK4.out.lt 2 rfl;have h4:=HW34.out;omega
       rw[Below.heap_setCell _ _ _ _ hd1.2,Below.heap_setCell _ _ _ _ hd1.1,Below.heap_setCell _ _ _ _ hd1.1,Below.heap_setCell _ _ _ _ hd1.1,Below.heap_setCell _ _ _ _ hd1.1,HB6.out.block D (Nat.lt_of_lt_of_le HD7.out.1 H1.out.size),H1.out.blk D HD7.out.1 HD7.out.2.1 HD7.out.2.1];exact HD7.out.2.2)
      gi_wp2
      exact⟨(JY HB6.out _).trans (((((KeepsOthers.setCell _ _ _).trans (KeepsOthers.setCell _ _ _)).trans (KeepsOthers.setCell _ _ _)).trans (KeepsOthers.setCell _ _ _)).trans (KeepsOthers.setCell _ _ _) |>.from _),rfl,by rw[HSN.out];exact HNO.out,HF.out,HDY.out⟩
    case done=>
     rintro D2 ys X hD2 hS ⟨h1,A1,c1,L1,h2,h3,h4⟩ hK2;have HYS:=jq (show Xn ys=QE m x old from hS)
     have hres:res=(⟨L1,gl,sl⟩,0):=by
      have h:=h2.o;rw[HYS.out] at h;rw[HGO.out HV1.out HV2.out HOL.out HFREE.out,<-HKL.out,h,HGL.out,HSTL.out]
     have HRES:=jq hres;have hW34:W3.1.size<=W.1.size:=Nat.le_trans HW34.out HW4.out;have HW3W:=jq hW34;have HKX:=jq (HK7.out.kp3 h1 (fun b hb=>by simp only[List.mem_cons,List.mem_nil_iff,or_false] at hb;have h1:=HQ11.out;have h2:=HK4.out.lt 0 rfl;have h3:=HK4.out.lt 1 rfl;have h6:=HW34.out;rcases hb with rfl|rfl|rfl|rfl|rfl<;>(show _≠P11;omega)) (Nat.le_trans HWW.out HQ11.out));have HGX:=jq (HG7.out.kp3 h1 (HG7.out.neBlk HP7.out (by decide)));have HSX:=jq (HS7.out.kp3 h1 (HS7.out.neBlk HP7.out (by decide)));have H1:=jq h1;have H3:=jq h3;have H4:=jq h4;have HK2:=jq hK2;have HD2:=jq hD2;have m0:=h3.cell 0 rfl;have m1:=h3.cell 1 rfl;have m2:=h3.cell 2 rfl;have m3:=h3.cell 3 rfl;have n0:=HKX.out.c 2 0 rfl rfl;have n1:=HKX.out.c 2 1 rfl rfl;have n2:=HKX.out.c 2 2 rfl rfl;have n3:=HKX.out.c 2 3 rfl rfl;have n4:=HKX.out.c 1 0 rfl rfl;have f0:=HKX.out.f 2 0 rfl;have f1:=HKX.out.f 2 1 rfl;have f2:=HKX.out.f 2 2 rfl;have f3:=HKX.out.f 2 3 rfl;have f4:=HKX.out.f 1 0 rfl;clear h1 h2 h3 h4 hK2 hD2 hS hres hW34 HSEQ;have hpne:w.1.size+1+1+1≠w.1.size+1+1:=by omega
     have HF:=jq (show MapFin (⟨L1,gl,sl⟩,0) w (w.1.size+1+1) (w.1.size+1+1+1) (((((X.setCell ⟨w.1.size+1+1,0,none⟩ (.slice A1 L1.length c1)).setCell ⟨w.1.size+1+1,1,none⟩ (.slice Ag gl.length cg)).setCell ⟨w.1.size+1+1,2,none⟩ (.slice As sl.length cs)).setCell ⟨w.1.size+1+1,3,none⟩ (.slice none 0 0)).setCell ⟨w.1.size+1+1+1,0,none⟩ (.int .i64 0)) from by
      have h:=((((HKX.out.set 2 0 rfl (.slice A1 L1.length c1)).set 2 1 rfl (.slice Ag gl.length cg)).set 2 2 rfl (.slice As sl.length cs)).set 2 3 rfl (.slice none 0 0)).set 1 0 rfl (.int .i64 0);exact⟨A1,c1,Ag,cg,As,cs,h.at_ 2 rfl,h.at_ 1 rfl,H4.out.sets5 (HKX.out.at_ 2 rfl) (HKX.out.at_ 1 rfl) (by decide) (by decide) hpne _ _ _ _ _,HGX.out.sets5 (HKX.out.at_ 2 rfl) (HKX.out.at_ 1 rfl) (by decide) (by decide) hpne _ _ _ _ _,HSX.out.sets5 (HKX.out.at_ 2 rfl) (HKX.out.at_ 1 rfl) (by decide) (by decide) hpne _ _ _ _ _,h.bl⟩)
     have hl4:=HK4.out.lt 1 rfl;have hl3:=HK4.out.lt 2 rfl;have hl5:=HW34.out;have hl6:=HDL.out;have hl7:=HD7.out.1;have hl8:=HD2.out;have HE2:=jq (show(((((X.setCell ⟨w.1.size+1+1,0,none⟩ (.slice A1 L1.length c1)).setCell ⟨w.1.size+1+1,1,none⟩ (.slice Ag gl.length cg)).setCell ⟨w.1.size+1+1,2,none⟩ (.slice As sl.length cs)).setCell ⟨w.1.size+1+1,3,none⟩ (.slice none 0 0)).setCell ⟨w.1.size+1+1+1,0,none⟩ (.int .i64 0)).heap[D2]?=some (.deferred (some [])) from(ZdV (by omega) (by omega) _ _ _ _ _).trans HK2.out);have HE1:=jq (show(((((X.setCell ⟨w.1.size+1+1,0,none⟩ (.slice A1 L1.length c1)).setCell ⟨w.1.size+1+1,1,none⟩ (.slice Ag gl.length cg)).setCell ⟨w.1.size+1+1,2,none⟩ (.slice As sl.length cs)).setCell ⟨w.1.size+1+1,3,none⟩ (.slice none 0 0)).setCell ⟨w.1.size+1+1+1,0,none⟩ (.int .i64 0)).heap[D]?=some (.deferred (some [])) from(ZdV (by omega) (by omega) _ _ _ _ _).trans ((H1.out.blk D HD7.out.1 HD7.out.2.1 HD7.out.2.1).trans HD7.out.2.2));have HNE:=jq (show D≠D2 by omega);clear hpne hl4 hl3 hl5 hl6 hl7 hl8
     gi_wp2
     go_wp2_with fail
     rw[HPO.out,HRES.out];have hD1:((((((X.setCell ⟨w.1.size+1+1,0,none⟩ (.slice A1 L1.length c1)).setCell ⟨w.1.size+1+1,1,none⟩ (.slice Ag gl.length cg)).setCell ⟨w.1.size+1+1,2,none⟩ (.slice As sl.length cs)).setCell ⟨w.1.size+1+1,3,none⟩ (.slice none 0 0)).setCell ⟨w.1.size+1+1+1,0,none⟩ (.int .i64 0)).putObj D2 (.deferred none)).heap[D]?=some (.deferred (some [])):=(World.putObj_heap_other HNE.out).trans HE1.out;exact⟨by simp,.inl ⟨_,_,rfl,run_takeDeferred HE2.out,by simp,.inl ⟨_,_,rfl,run_takeDeferred hD1,((HF.out.put (Nat.le_trans HSZ7.out HD2.out) HE2.out).put (Nat.le_trans HWB.out HDL.out) hD1).leave rfl rfl⟩⟩⟩
end
end Go.Proofs.YtmamnnaiogidaaaGreatDoor
