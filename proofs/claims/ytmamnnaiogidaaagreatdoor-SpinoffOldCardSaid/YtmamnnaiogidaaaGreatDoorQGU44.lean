/- SO. -/
import Derived.Test.YtmamnnaiogidaaaGreatDoorQGU43
set_option maxRecDepth 100000
set_option maxHeartbeats 8000000
namespace Go.Proofs.YtmamnnaiogidaaaGreatDoor
open Go.Lib renaming hid→jq
section
open Go.RowKit Go.Shelf
attribute [local go_sem] Oper.semAt_some
attribute [local go_sem ↓] Go.wp_at_zero Go.wp_at_succ Yh
def ZfE(ms:List Int)(k:Nat):Int:=(ms.take k).sum
theorem ZjP{ms:List Int}{k:Nat}{a:Int}(h:ms[k]?=some a):ZfE ms (k+1)=ZfE ms k+a:=by
 obtain⟨hk,rfl⟩:=List.getElem?_eq_some_iff.1 h
 unfold ZfE;rw[List.take_succ_eq_append_getElem hk,Qv];simp
theorem Znv{ms:List Int}{K:Nat}(h:∀a∈ms,a.natAbs<10^K)(hn:ms.length<=1000)(k:Nat):(ZfE ms k).natAbs<10^(K+4):=by
 have h1:=Vb (l:=ms.take k) (g:=fun z=>z) (L:=K) (fun a ha=>h a (List.mem_of_mem_take ha)) (by rw[List.length_take];omega)
 rwa [List.map_id'] at h1
theorem ZgP(ms:List Int)(k:Nat)(h:ms.length<=k):ZfE ms k=ms.sum:=by
 unfold ZfE;rw[List.take_of_length_le h]
theorem Znw{i:List UInt8}{c:Int}{x:Lot}:(ZcI i c x).id=x.id/\(ZcI i c x).inst=x.inst:=by
 unfold ZcI
 split<;>exact⟨rfl,rfl⟩
theorem Zod{ls:List Lot}{f:Fct}(h:Xr ls f=true)(hq:∀y∈ls,y.q.length<=13/\y.c.length<=13)(hr:f.ratio.Sz 13)(hpr:f.price.Sz 13):
 (Qe (Qb ls f.inst) (Js f)).m.length=(Qb ls f.inst).length/\(Qb ls f.inst).length<=1000/\∀a∈(Qe (Qb ls f.inst) (Js f)).m,a.natAbs<10^92:=by
 obtain⟨h1,h2⟩:=ZgF h
 have hok:=(Yd ls).1 h1;have hlo:(Qb ls f.inst).length<=1000:=Nat.le_trans (XI ls f.inst) hok.len;have hk:=ZaS (L:=13) (Qz hok f.inst) ((VU _).1 h2) hlo (by decide) (fun y hy=>(hq y (List.mem_filter.1 hy).1).1) (fun y hy=>(hq y (List.mem_filter.1 hy).1).2) hr hpr;refine⟨(QB (Qb ls f.inst) (Js f)).2.1,hlo,fun a ha=> ?_⟩;obtain⟨i,hi⟩:=List.getElem?_of_mem ha
 have:=hk.m i
 rw[Xt hi] at this;exact Nat.lt_of_lt_of_le this (Nat.pow_le_pow_right (by omega) (by omega))
theorem Zl6(A:Option Addr)(n c:Nat)(ls:List Lot)(f:Fct)(v:FaV)(w:World)(hp:Env w)(hs:Xg w w.1.size A n ls)(hn:n<=maxLen)(hnil:(A=none/\c=0)\/∃a,A=some a)(hi:∀y∈ls,Lot.I y)(hm:FaM w w.1.size f v)(hpn:v.pn<=maxLen)(hon:v.on<=maxLen)(hx:f.Max):
 Calls Tryz.prog 4 #[.slice A n c,.agg (Qo f v)] w fun e w'=>e=.returned (.bool true)/\Below w.1.size w w':=by
 have hml:maxLen<=9223372036854775807:=by decide
 obtain rfl:n=ls.length:=hs.1;have H:=jq ((Kp.start hp).new w.1.size rfl (Qo f v) 30);have hl0:=QP (H.out.at_ 0 rfl) (QR f v)
 have HLG:=jq (fun W (hb:Below w.1.size w W)=>JI A ls.length c ls f v W (hp.here hb) (hs.here hb) (by omega) (hm.here hb) (by omega) (by omega) (by
  intro x hx';simp only[List.mem_cons,List.mem_nil_iff,or_false] at hx'
  rcases hx' with rfl|rfl|rfl
  ·exact hx.ratio
  ·exact hx.share
  ·exact hx.price))
 have HAW:=jq (fun W (hp:Env W)=>ZbX W hp.pow)
 have HAP:=jq (fun(hg:VD ls=false) (h1:f.Gs) (h2:v.pn<=66) (h3:v.on<=10) (hp':∀p∈f.picks,p.Sz 30) (ho:∀o∈f.options,o.Sz 24) (W:World) (hb:Below w.1.size w W)=>
  ZaB A ls.length c ls f v W (hp.here hb) (hs.here hb) hnil (XA hi hg).2.1 (fun x hx=>((YH hg hi).2 x hx).2.1) (XA hi hg).2.2 (XA hi hg).1 (h1.sz0 hx hp' ho) h1.ratio h1.share h1.price (hm.here hb) (by omega) (by omega))
 have HCO:=jq (fun(hg:VD ls=false) (h1:f.Gs) (h2:v.pn<=66) (h3:v.on<=10) (hp':∀p∈f.picks,p.Sz 30) (ho:∀o∈f.options,o.Sz 24) (W:World) (hb:Below w.1.size w W)=>
  Zjt A ls.length c ls f v W (hp.here hb) (hs.here hb) (XA hi hg).2.1 (XA hi hg).2.2 (XA hi hg).1 (h1.sz0 hx hp' ho) h1.share (hm.here hb) (by omega) (by omega))
 have HLO:=jq (fun(hg:VD ls=false) W (hb:Below w.1.size w W)=>Vp A ls.length c ls f.inst W (hs.here hb) (by have:=(XA hi hg).1;omega));have HLEN:=jq (fun(hg:VD ls=false) (h1:f.Gs)=>ZfA (ls:=ls) (f:=f) (fun y hy=>((YH hg hi).2 y hy).2) (XA hi hg).2.1 h1.ratio h1.price);have HGL:=jq (fun(hg:VD ls=false) (h1:f.Gs)=>And.intro (XA hi hg).1 (And.intro (fun(hv:Xr ls f=true)=>Zod hv (fun y hy=>((YH hg hi).2 y hy).2) h1.ratio h1.price) (XA hi hg).2.2));have HZ:=jq (QR f v);have HS:=jq hs;have K5:=jq (show(Qo f v)[5]?=some (.string ⟨f.inst.toArray⟩) from rfl);have K6:=jq (show(Qo f v)[6]?=some (.string ⟨f.other.toArray⟩) from rfl);have HOF:=jq (fun W hp=>ZkD 0 (by omega) (by omega) W hp);rw[show ofL 0=[] from ZhV 0] at HOF;generalize Qo f v=fb at*;clear hp hs hn hnil hi hm hpn hon hx hml;unfold RetOwn at HLO;unfold S at*
 go_enter Tryz.func4,Tryz.ntmps4
 go_wp2_with fail
 refine(HLG.out _ H.out.bl).mono ?_;rintro e w1 ⟨⟨b,rfl,hP⟩,hb1⟩;have HP:=jq hP;have H1:=jq (H.out.here hb1);clear hP hb1 hl0 H HLG
 cases b with
 |true=>
  go_wp2_with fail
  refine(HAW.out _ H1.out.pw).mono ?_;rintro e w2 ⟨rfl,hb2⟩;go_wp2_with fail
  first|go_ret|skip
  exact⟨rfl,(H1.out.here hb2).bl⟩
 |false=>
 obtain⟨g1,g2,g3,g4,g5,g6⟩:=HP.out rfl
 have HAX:=jq (HAP.out g1 g2 g3 g4 g5 g6);have HCX:=jq (HCO.out g1 g2 g3 g4 g5 g6);have HLX:=jq (HLO.out g1);have HLN:=jq (HLEN.out g1 g2);have HNL:=jq (HGL.out g1 g2);clear g1 g2 g3 g4 g5 g6 HP HAP HCO HLO HLEN HGL;have l1:=QP (H1.out.at_ 0 rfl) HZ.out;go_wp2_with fail
 refine(HAX.out _ H1.out.bl).mono ?_;rintro e w2 ⟨A1,c1,Ag,cg,As,cs,E,rfl,oL,oG,oS,hE,hb2⟩;clear l1 HAX;obtain⟨Ae,ne,ce,rfl,hne⟩:=hE.slice
 clear hE
 by_cases h0:(Xk ls f).2=0
 rotate_left
 ·have h0':((Xk ls f).2 !=0)=true:=by simpa using h0
  obtain rfl:=hne h0;rw[ZlI h0] at oL ⊢;have H3:=jq ((H1.out.here hb2).new w2.1.size rfl #[.slice A1 Res.none.lots.length c1,.slice Ag Res.none.gains.length cg,.slice As Res.none.steps.length cs,.slice Ae 0 ce] 37);rw[show Res.none.lots.length=0 from rfl,show Res.none.gains.length=0 from rfl,show Res.none.steps.length=0 from rfl] at H3 ⊢;generalize (Xk ls f).2=er at*;clear oL oG oS hb2 h0 HLN hne H1;have n0:=H3.out.c 0 0 rfl rfl;have n3:=H3.out.c 0 3 rfl rfl;go_wp2_with fail
  refine(HAW.out _ H3.out.pw).mono ?_;rintro e w4 ⟨rfl,hb4⟩;go_wp2_with fail
  first|go_ret|skip
  exact⟨rfl,(H3.out.here hb4).bl⟩
 obtain⟨hv,hap,hz0⟩:=Zci h0
 have hcp:=ZlJ hv;obtain⟨ml1,ml2,ml3⟩:=HNL.out.2.1 hv
 have HFN:=jq (fun(k:Nat) (x:Lot) (h:ls[k]?=some x)=>ZlL hz0 rfl h);have HLA:=jq (ZlM hz0);rw[<-hap] at HFN HLA;rw[show(Js f).inst=f.inst from rfl] at HFN HLA;rw[hcp] at HCX;obtain⟨q1,q2,q3,q4⟩:=HLN.out
 have HQ1:=jq (show ∀y∈(Xk ls f).1.lots,y.c.length<=94 from fun y hy=>(q1 y hy).2.1);have HQ2:=jq (show ∀y∈(Xk ls f).1.gains,y.cost.length<=94 from fun y hy=>(q2 y hy).1);have HQ3:=jq q3;have HQ4:=jq q4;have HML:=jq ml1;have HM2:=jq ml2;have HM3:=jq ml3;rw[h0];have H3:=jq ((H1.out.here hb2).new w2.1.size rfl #[.slice A1 (Xk ls f).1.lots.length c1,.slice Ag (Xk ls f).1.gains.length cg,.slice As (Xk ls f).1.steps.length cs,.slice Ae ne ce] 37);have HO3:=jq (oL.alloc (.cells #[.slice A1 (Xk ls f).1.lots.length c1,.slice Ag (Xk ls f).1.gains.length cg,.slice As (Xk ls f).1.steps.length cs,.slice Ae ne ce] 37));have HG3:=jq (oG.alloc (.cells #[.slice A1 (Xk ls f).1.lots.length c1,.slice Ag (Xk ls f).1.gains.length cg,.slice As (Xk ls f).1.steps.length cs,.slice Ae ne ce] 37));clear oL oG oS hb2 H1 hv hap hz0 hcp ml1 ml2 ml3 q1 q2 q3 q4 hne HLN h0;unfold ZbD at HCX
 dsimp only at HCX
 generalize (Qe (Qb ls f.inst) (Js f)).m=ms at*;generalize (Xk ls f).1.lots=lots at*;generalize (Xk ls f).1.gains=gains at*;generalize (Xk ls f).1.steps=steps at*;go_upto_region 4 with (fail)
 generalize w2.alloc _=W3 at*;have l3:=QP (H3.out.at_ 1 rfl) HZ.out;go_wp2_with fail
 refine(HCX.out _ H3.out.bl).mono ?_;rintro e w4 ⟨A4,c4,rfl,hst,_,hb4⟩;have H4:=jq (H3.out.here hb4);have HO4:=jq (HO3.out.below hb4);have HG4:=jq (HG3.out.below hb4);have HT4:=jq hst;clear l3 hst hb4 H3 HO3 HG3 HCX;have x5:=H4.out.c 1 5 rfl K5.out;go_wp2_with fail
 refine(HLX.out _ H4.out.bl).mono ?_;rintro e w5 ⟨A5,c5,rfl,_,hb5⟩;have H5:=jq (H4.out.here hb5);have HO5:=jq (HO4.out.below hb5);have HG5:=jq (HG4.out.below hb5);have HT5:=jq (HT4.out.here hb5);rw[<-HML.out];clear x5 hb5 H4 HO4 HG4 HT4 HLX
 (try unfold S at HOF)
 have hnn:((ms.length:Int) !=(ms.length:Int))=false:=by simp
 go_wp2_with fail
 refine(HOF.out _ H5.out.po).mono ?_;rintro e w6 ⟨rfl,hb6⟩;have H6:=jq (H5.out.here hb6);have HO6:=jq (HO5.out.below hb6);have HG6:=jq (HG5.out.below hb6);have HT6:=jq (HT5.out.here hb6);clear hb6 H5 HO5 HG5 HT5 HOF hnn;have hl1:=HNL.out.1;have HC0:=jq (show VE ls f.inst 0=0 from rfl);have HCE:=jq (show VE ls f.inst ls.length=ms.length by unfold VE;rw[List.take_of_length_le (Nat.le_refl _)];exact HML.out.symm);have HC1:=jq (fun(k:Nat) (x:Lot) (h:ls[k]?=some x)=>And.intro (ZeP (i:=f.inst) h) (fun hx=>Znc (i:=f.inst) h hx));rw[<-HML.out] at HC1 HM2;have HLS:=jq (fun k=>Znv HM3.out HM2.out k);generalize hcn:VE ls f.inst=cn at*;clear hcn HML;go_upto_region 11 with (fail)
 go_wp2_with fail
 go_loopw [9,10,12,13,14,65] (fun a b _ _ _ i wr=>∃k:Nat,k<=ls.length/\i=.int .i64 k/\a=.int .i64 (cn k:Nat)/\b=.string ⟨(Qa (ZfE ms (cn k))).toArray⟩/\Hid (Below w6.1.size w6 wr)) (fun _ _ _ _ _ i _=>ls.length-(intOf i).toNat)
 case atStart=>exact⟨0,Nat.zero_le _,rfl,by rw[HC0.out];rfl,by rw[HC0.out];rfl,Below.refl _ _⟩
 case round=>
  obtain⟨k,hk,rfl,rfl,rfl,HBR⟩:=hrel
  by_cases hlt:k<ls.length
  ·obtain⟨b,off,x,hA,hb,hx,d0,d1,d2,d3,d4,d5,d6⟩:=(HS.out.here (H6.out.here HBR.out).bl).lot7 hlt
   obtain⟨hc1,hc2⟩:=HC1.out k x hx
   obtain⟨jj,hj1,hj2⟩:=HFN.out k x hx
   have HXC:=jq (HNL.out.2.2 x (List.mem_of_getElem? hx));have HBX:=jq (HBR.out.alloc HBR.out.size (.cells #[.string ⟨x.id.toArray⟩,.string ⟨x.inst.toArray⟩,.int .i64 x.acq,.int .i64 x.opn,.string ⟨x.q.toArray⟩,.string ⟨x.c.toArray⟩,.string ⟨x.u.toArray⟩] 50));have HK8:=jq ((H6.out.here HBR.out).new wr.1.size rfl #[.string ⟨x.id.toArray⟩,.string ⟨x.inst.toArray⟩,.int .i64 x.acq,.int .i64 x.opn,.string ⟨x.q.toArray⟩,.string ⟨x.c.toArray⟩,.string ⟨x.u.toArray⟩] 50);have HFD:=jq (fun W (h:Below w6.1.size w6 W)=>Jr A1 lots.length c1 lots x.id W ((HO6.out.below h).sl Ql) (by have:=HQ3.out;omega));rw[hj1] at HFD;rw[show max (jj:Int) 0=(jj:Int) by omega,show decide ((0:Int)<=(jj:Int))=true by simp] at HFD;unfold S at HFD;have HJ2:=jq hj2;have HWS:=jq (show w6.1.size<=wr.1.size from HBR.out.size);subst hA;clear hb hx hj1 hj2;go_upto_region 14 with (fail)
   clear d0 d1 d2 d3 d4 d5 d6;generalize wr.alloc _=W8 at*;generalize hbx:wr.1.size=bx at*;clear hbx;obtain⟨z,hz⟩:∃z,z=ZcI f.inst (ms.getD (cn k) 0) x:=⟨_,rfl⟩
   rw[<-hz] at HJ2;have HZI:=jq (show z.id=x.id by rw[hz];exact Znw.1);have x1:=HK8.out.c 0 1 rfl rfl;have x5:=HK8.out.c 2 5 rfl K5.out;obtain⟨bb,hbb⟩:∃bb,(x.inst==f.inst)=bb:=⟨_,rfl⟩
   have HBB:=jq hbb;go_upto_if 73 with (fail)
   clear x1 x5 hbb
   go_cut [9,10] (fun a b wc=>a=.int .i64 (cn (k+1):Nat)/\b=.string ⟨(Qa (ZfE ms (cn (k+1)))).toArray⟩/\Hid (BlkB wc bx #[.string ⟨z.id.toArray⟩,.string ⟨z.inst.toArray⟩,.int .i64 z.acq,.int .i64 z.opn,.string ⟨z.q.toArray⟩,.string ⟨z.c.toArray⟩,.string ⟨z.u.toArray⟩] 50)/\Hid (Below w6.1.size w6 wc))
   case first=>
    cases bb with
    |true=>
     have hxi:x.inst=f.inst:=eq_of_beq HBB.out;rw[if_pos hxi] at hc1;have hcl:=hc2 hxi;have hi1:¬((ms.length:Int)<=((cn k:Nat):Int)):=by omega
     have hi2:¬(ms.length<=cn k):=by omega
     obtain⟨a,ha⟩:∃a,ms[cn k]?=some a:=⟨_,List.getElem?_eq_getElem hcl⟩
     have hzc:z={x with c:=Qa (val x.c-a)}:=by rw[hz];unfold ZcI;rw[if_pos hxi,Xt ha]
     have HSB:=jq (fun W hp=>Yp x.c (Qa a) W hp (by have:=HXC.out;omega) (by have:=Qd (HM3.out a (List.mem_of_getElem? ha));omega));rw[Qc] at HSB;have HAD:=jq (fun W hp=>Xv (Qa (ZfE ms (cn k))) (Qa a) W hp (by have:=Qd (HLS.out (cn k));omega) (by have:=Qd (HM3.out a (List.mem_of_getElem? ha));omega));rw[Qc,Qc,<-ZjP ha,<-hc1] at HAD;obtain⟨bc,oc,t,hA4,hbc,ht,e1⟩:=HT6.out.st (i:=cn k) hcl
     obtain rfl:t=Qa a:=by rw[List.getElem?_map,ha] at ht;exact(Option.some.inj ht).symm
     have HCC:=jq (fun W (h:Below w6.1.size w6 W)=>(h.cell (p:=⟨bc,oc+cn k,none⟩) hbc).trans e1);have HEN:=jq (fun W (h:Below w6.1.size w6 W)=>(H6.out.here h).po);have hm2:=HM2.out;have HZC:=jq (show z.c=Qa (val x.c-a) by rw[hzc]);have HZQ:=jq (show ∀W,BlkB W bx (#[.string ⟨x.id.toArray⟩,.string ⟨x.inst.toArray⟩,.int .i64 x.acq,.int .i64 x.opn,.string ⟨x.q.toArray⟩,.string ⟨z.c.toArray⟩,.string ⟨x.u.toArray⟩]) 50->BlkB W bx #[.string ⟨z.id.toArray⟩,.string ⟨z.inst.toArray⟩,.int .i64 z.acq,.int .i64 z.opn,.string ⟨z.q.toArray⟩,.string ⟨z.c.toArray⟩,.string ⟨z.u.toArray⟩] 50 from fun W h=>by rw[hzc] at h ⊢; exact h);rw[<-HZC.out] at HSB;have HYB:=jq (HK8.out.at_ 0 rfl);subst hA4;unfold QG S at HSB;unfold S at HAD;clear hxi hz hzc hi1 ha hbc ht e1 HZC HXC;have y5:=HK8.out.c 0 5 rfl rfl;have e1:=HCC.out _ HBX.out;have j1:(0:Int)<=((cn k:Nat):Int):=by omega
     have j2:((cn k:Nat):Int)<(ms.length:Int):=by omega
     go_wp2_with fail
     go_region_with
      (go_at_call 16;(refine(HSB.out _ (HEN.out _ HBX.out.drew)).mono ?_);rintro e v1 ⟨rfl,hv1⟩;have hg1:Below w6.1.size w6 v1:=HBX.out.drew.trans (hv1.mono HBX.out.drew.size);have hq1:BlkB v1 bx #[.string ⟨x.id.toArray⟩,.string ⟨x.inst.toArray⟩,.int .i64 x.acq,.int .i64 x.opn,.string ⟨x.q.toArray⟩,.string ⟨x.c.toArray⟩,.string ⟨x.u.toArray⟩] 50:=BlkB.here (w:=W8.drew) HYB.out hv1;have z5:=hq1.cell 5 rfl;have f5:=hq1.frozen 5)
     all_goals
      have HB9:=jq (hg1.setCell (p:=⟨bx,5,none⟩) HWS.out (.string ⟨z.c.toArray⟩));have HQ9:=jq (HZQ.out _ (hq1.set 5 (.string ⟨z.c.toArray⟩)));generalize v1.setCell ⟨bx,5,none⟩ (.string ⟨z.c.toArray⟩)=W9 at*;clear hg1 hq1 z5 f5 y5 e1;have e2:=HCC.out _ HB9.out;go_wp2_with fail
      refine(HAD.out _ (HEN.out _ HB9.out)).mono ?_;rintro e va ⟨rfl,hva⟩;go_wp2_with fail
      go_meet
      exact⟨by rw[hc1];go_num,by first|rfl|(rw[hc1];rfl),HQ9.out.here hva,HB9.out.trans (hva.mono HB9.out.size)⟩
    |false=>
     have hxi:¬x.inst=f.inst:=by simpa using HBB.out
     rw[if_neg hxi,Nat.add_zero (cn k)] at hc1;obtain rfl:z=x:=by rw[hz];unfold ZcI;rw[if_neg hxi]
     have HYB:=jq (HK8.out.at_ 0 rfl);clear hxi hz;go_wp2_with fail
     go_meet
     exact⟨by rw[hc1],by rw[hc1],HYB.out,HBX.out⟩
   case rest=>
   obtain⟨rfl,rfl,HBZ,HB9⟩:=hcut
   have H9:=jq (H6.out.here HB9.out);rw[<-HZI.out] at HFD;clear hz HK8 HBX HXC hc1 hc2 HZI;have n0:=H9.out.c 0 0 rfl rfl;have z0:=HBZ.out.cell 0 rfl;go_upto_region 20 with (fail)
   go_wp2_with fail
   refine(HFD.out _ HB9.out).mono ?_;rintro e wd ⟨rfl,hbd⟩;have HBD:=jq (HB9.out.trans (hbd.mono HB9.out.size));have HBZ2:=jq (HBZ.out.here hbd);have H10:=jq (H6.out.here HBD.out);clear n0 z0 hbd H9 HBZ HB9 HFD;have hjl:jj<lots.length:=(List.getElem?_eq_some_iff.1 HJ2.out).1;obtain⟨b2,off2,z',hA1,hb2,hz',g0,g1,g2,g3,g4,g5,g6⟩:=((HO6.out.below HBD.out).sl Ql).lot7 (i:=jj) hjl
   obtain rfl:z'=z:=Option.some.inj (hz'.symm.trans HJ2.out);have n0:=H10.out.c 0 0 rfl rfl;rw[hA1] at n0;obtain⟨z0,z1,z2,z3,z4,z5,z6⟩:=s7b HBZ2.out
   have hll:=HQ3.out;have i1:(0:Int)<=(jj:Int):=by omega
   have i2:(jj:Int)<(lots.length:Int):=by omega
   have i3:¬((jj:Int)<0):=by omega
   have i4:¬(lots.length<=jj):=by omega
   clear hz' hb2 hA1;go_upto_region 21 with (fail)
   go_cut [123] (fun b wc=>b=.bool false/\wd.drew=wc)
   case first=>
    go_region_held3 (fun X=>X.cell? ⟨w2.1.size,0,none⟩=some (.slice (some ⟨b2,off2,none⟩) lots.length c1)/\X.cell? ⟨b2,off2+jj*7,none⟩=some (.string ⟨z'.id.toArray⟩)/\X.cell? ⟨b2,off2+jj*7+1,none⟩=some (.string ⟨z'.inst.toArray⟩)/\X.cell? ⟨b2,off2+jj*7+2,none⟩=some (.int .i64 z'.acq)/\X.cell? ⟨b2,off2+jj*7+3,none⟩=some (.int .i64 z'.opn)/\X.cell? ⟨b2,off2+jj*7+4,none⟩=some (.string ⟨z'.q.toArray⟩)/\X.cell? ⟨b2,off2+jj*7+5,none⟩=some (.string ⟨z'.c.toArray⟩)/\X.cell? ⟨b2,off2+jj*7+6,none⟩=some (.string ⟨z'.u.toArray⟩)/\
     X.cell? ⟨bx,0,none⟩=some (.string ⟨z'.id.toArray⟩)/\X.cell? ⟨bx,1,none⟩=some (.string ⟨z'.inst.toArray⟩)/\X.cell? ⟨bx,2,none⟩=some (.int .i64 z'.acq)/\X.cell? ⟨bx,3,none⟩=some (.int .i64 z'.opn)/\X.cell? ⟨bx,4,none⟩=some (.string ⟨z'.q.toArray⟩)/\X.cell? ⟨bx,5,none⟩=some (.string ⟨z'.c.toArray⟩)/\X.cell? ⟨bx,6,none⟩=some (.string ⟨z'.u.toArray⟩)) (go_keep) (fail)
    all_goals
     go_wp2_with fail
     go_meet
     exact⟨rfl,rfl⟩
   case rest=>
   obtain⟨rfl,rfl⟩:=hcut
   clear n0 z0 z1 z2 z3 z4 z5 z6 g0 g1 g2 g3 g4 g5 g6;go_wp2_with fail
   go_roundw
   case rel=>exact⟨k+1,by omega,by go_num,rfl,rfl,HBD.out.drew⟩
   case measure=>simp[intOf];omega
  ·obtain rfl:k=ls.length:=by omega
   rw[HCE.out,ZgP ms ms.length (Nat.le_refl _)];have HMS:=jq (show ms.sum.natAbs<10^98 by have h:=HLS.out ms.length;rw[ZgP ms ms.length (Nat.le_refl _)] at h;exact Nat.lt_trans h (Nat.pow_lt_pow_right (by omega) (by omega)));have H7:=jq (H6.out.here HBR.out);have HO7:=jq (HO6.out.below HBR.out);have HG7:=jq (HG6.out.below HBR.out);clear HBR H6 HO6 HG6 HT6 HC0 HCE HC1 HLS HFN HM2 HM3 hlt hk;generalize ms.sum=M at*;generalize wr=wq at*;have HPS:=jq (show M=M-XD (Qr ls (lots.take 0)) by rw[List.take_zero];exact(Int.sub_zero M).symm);have n0:=H7.out.c 0 0 rfl rfl;have hll:=HQ3.out;go_wp2_with fail
   go_loopw [10,16,17,18,128] (fun a _ _ _ i wr=>∃k:Nat,k<=lots.length/\i=.int .i64 k/\a=.string ⟨(Qa (M-XD (Qr ls (lots.take k)))).toArray⟩/\Hid (Below wq.1.size wq wr)) (fun _ _ _ _ i _=>lots.length-(intOf i).toNat)
   case atStart=>exact⟨0,Nat.zero_le _,rfl,by rw[<-HPS.out],Below.refl _ _⟩
   case round=>
    clear n0 HPS;obtain⟨k,hk,rfl,rfl,HBR⟩:=hrel
    by_cases hlt:k<lots.length
    ·obtain⟨b,off,y,rfl,hb,hy,d0,d1,d2,d3,d4,d5,d6⟩:=((HO7.out.below HBR.out).sl Ql).lot7 hlt
     have HTC:=jq (ZeU ls hy);have HFM:=jq (ZbK ls y.id);have HA1:=jq (fun W hp=>Yp (Qa (M-XD (Qr ls (lots.take k)))) y.c W hp (by have:=ZhT HMS.out (ZiB ls HQ1.out HQ3.out k);omega) (by have:=HQ1.out y (List.mem_of_getElem? hy);omega));rw[Qc] at HA1;have HB1:=jq (HBR.out.alloc HBR.out.size (.cells #[.string ⟨y.id.toArray⟩,.string ⟨y.inst.toArray⟩,.int .i64 y.acq,.int .i64 y.opn,.string ⟨y.q.toArray⟩,.string ⟨y.c.toArray⟩,.string ⟨y.u.toArray⟩] 50));have HY:=jq (show BlkB (wr.alloc (.cells #[.string ⟨y.id.toArray⟩,.string ⟨y.inst.toArray⟩,.int .i64 y.acq,.int .i64 y.opn,.string ⟨y.q.toArray⟩,.string ⟨y.c.toArray⟩,.string ⟨y.u.toArray⟩] 50)) wr.1.size #[.string ⟨y.id.toArray⟩,.string ⟨y.inst.toArray⟩,.int .i64 y.acq,.int .i64 y.opn,.string ⟨y.q.toArray⟩,.string ⟨y.c.toArray⟩,.string ⟨y.u.toArray⟩] 50 from heap_alloc_new wr _);have HFD:=jq (fun W (hb:Below w.1.size w W)=>Jr A ls.length c ls y.id W (HS.out.here hb) (by have:=HNL.out.1;omega));unfold QG S at HA1;unfold S at HFD;generalize max (Zax ls y.id) 0=mx at*;generalize decide (0<=Zax ls y.id)=fd at*;clear hy hb;go_upto_region 27 with (fail)
     clear d0 d1 d2 d3 d4 d5 d6;generalize wr.alloc _=W8 at*;generalize wr.1.size=bx at*;have y0:=HY.out.cell 0 rfl;go_wp2_with fail
     refine(HFD.out _ (H7.out.here HB1.out).bl).mono ?_;rintro e w9 ⟨rfl,hb9⟩;have HB9:=jq (HB1.out.trans (hb9.mono HB1.out.size));have HY9:=jq (HY.out.here hb9);clear y0 hb9 HB1 HY HFD
     cases fd with
     |true=>
      have HNE:=jq (show M-XD (Qr ls (lots.take (k+1)))=M-XD (Qr ls (lots.take k)) by rw[HTC.out,if_pos (by simpa using HFM.out),Int.add_zero]);go_wp2_with fail
      go_roundw
      case rel=>exact⟨k+1,by omega,by go_num,by rw[HNE.out],HB9.out⟩
      case measure=>simp[intOf];omega
     |false=>
      have HNE:=jq (show M-XD (Qr ls (lots.take (k+1)))=M-XD (Qr ls (lots.take k))-val y.c by rw[HTC.out,if_neg (by simpa using HFM.out)];omega);rw[<-HNE.out] at HA1;have y5:=HY9.out.cell 5 rfl;go_wp2_with fail
      refine(HA1.out _ (H7.out.here HB9.out).po).mono ?_;rintro e wa ⟨rfl,hba⟩;go_wp2_with fail
      go_roundw
      case rel=>exact⟨k+1,by omega,by go_num,rfl,HB9.out.trans (hba.mono HB9.out.size)⟩
      case measure=>simp[intOf];omega
    ·obtain rfl:k=lots.length:=by omega
     rw[List.take_of_length_le (Nat.le_refl _)]
     have HCB:=jq (show(XD (Qr ls lots)).natAbs<10^98 by
      have h:=ZiB ls HQ1.out HQ3.out lots.length
      rwa [List.take_of_length_le (Nat.le_refl _)] at h)
     have H8:=jq (H7.out.here HBR.out);have HG8:=jq (HG7.out.below HBR.out);clear HBR H7 HO7 HG7 hlt hk hll;have HMC:=jq (show(M-XD (Qr ls lots)).natAbs<10^99 from Yf HMS.out HCB.out);generalize M-XD (Qr ls lots)=M2 at*;generalize wr=wp at*;have HPS:=jq (show M2=M2-Vc (gains.take 0) by rw[List.take_zero];exact(Int.sub_zero M2).symm);have n1:=H8.out.c 0 1 rfl rfl;have hgl:=HQ4.out;go_wp2_with fail
     go_loopw [10,20,149] (fun a _ i wr=>∃k:Nat,k<=gains.length/\i=.int .i64 k/\a=.string ⟨(Qa (M2-Vc (gains.take k))).toArray⟩/\Hid (Below wp.1.size wp wr)) (fun _ _ i _=>gains.length-(intOf i).toNat)
     case atStart=>exact⟨0,Nat.zero_le _,rfl,by rw[<-HPS.out],Below.refl _ _⟩
     case round=>
      clear n1 HPS;obtain⟨k,hk,rfl,rfl,HBR⟩:=hrel
      by_cases hlt:k<gains.length
      ·obtain⟨b,off,y,rfl,hb,hy,d0,d1,d2,d3,d4,d5,d6,d7,d8,d9⟩:=((HG8.out.below HBR.out).sl ZcX).gain hlt
       have HNE:=jq (show M2-Vc (gains.take (k+1))=M2-Vc (gains.take k)-val y.cost by rw[ZeT hy];omega);have HA1:=jq (fun W hp=>Yp (Qa (M2-Vc (gains.take k))) y.cost W hp (by have:=ZhT (K:=99) HMC.out (Nat.lt_trans (Zns HQ2.out HQ4.out k) (Nat.pow_lt_pow_right (by omega) (by omega)));omega) (by have:=HQ2.out y (List.mem_of_getElem? hy);omega));rw[Qc,<-HNE.out] at HA1;have HB1:=jq (HBR.out.alloc HBR.out.size (.cells #[.string ⟨y.cause.toArray⟩,.string ⟨y.lot.toArray⟩,.string ⟨y.inst.toArray⟩,.int .i64 y.acq,.int .i64 y.closed,.string ⟨y.q.toArray⟩,.string ⟨y.proceeds.toArray⟩,.string ⟨y.cost.toArray⟩,.string ⟨y.deferred.toArray⟩,.string ⟨y.replaced.toArray⟩] 47));have HY:=jq (show BlkB (wr.alloc (.cells #[.string ⟨y.cause.toArray⟩,.string ⟨y.lot.toArray⟩,.string ⟨y.inst.toArray⟩,.int .i64 y.acq,.int .i64 y.closed,.string ⟨y.q.toArray⟩,.string ⟨y.proceeds.toArray⟩,.string ⟨y.cost.toArray⟩,.string ⟨y.deferred.toArray⟩,.string ⟨y.replaced.toArray⟩] 47)) wr.1.size #[.string ⟨y.cause.toArray⟩,.string ⟨y.lot.toArray⟩,.string ⟨y.inst.toArray⟩,.int .i64 y.acq,.int .i64 y.closed,.string ⟨y.q.toArray⟩,.string ⟨y.proceeds.toArray⟩,.string ⟨y.cost.toArray⟩,.string ⟨y.deferred.toArray⟩,.string ⟨y.replaced.toArray⟩] 47 from heap_alloc_new wr _);unfold QG S at HA1;clear hy hb;go_upto_region 34 with (fail)
       clear d0 d1 d2 d3 d4 d5 d6 d7 d8 d9;generalize wr.alloc _=W9 at*;generalize wr.1.size=bx at*;have y7:=HY.out.cell 7 rfl;go_wp2_with fail
       refine(HA1.out _ (H8.out.here HB1.out).po).mono ?_;rintro e wa ⟨rfl,hba⟩;go_wp2_with fail
       go_roundw
       case rel=>exact⟨k+1,by omega,by go_num,rfl,HB1.out.trans (hba.mono HB1.out.size)⟩
       case measure=>simp[intOf];omega
      ·obtain rfl:k=gains.length:=by omega
       rw[List.take_of_length_le (Nat.le_refl _),HLA.out,show Qa 0=[] from rfl];have H9:=jq (H8.out.here HBR.out);go_wp2_with fail
       refine(HAW.out _ H9.out.pw).mono ?_;rintro e wa ⟨rfl,hba⟩;go_wp2_with fail
       first|go_ret|skip
       exact⟨rfl,(H9.out.here hba).bl⟩
end
end Go.Proofs.YtmamnnaiogidaaaGreatDoor
