/- Mo1. -/
import Derived.Test.YtmamnnaiogidaaaGreatDoorQGU28
import Derived.Test.YtmamnnaiogidaaaGreatDoorQGU20
set_option maxRecDepth 100000
set_option maxHeartbeats 4000000
namespace Go.Proofs.YtmamnnaiogidaaaGreatDoor
open Go.Lib renaming hid→jq
section
open Go.RowKit Go.Shelf
attribute [local go_sem ↓] Go.wp_at_zero Go.wp_at_succ VQ ZcU
def JU(ls:List Lot)(m:Mp):List UInt8×List UInt8×List UInt8×Int:=
 if Xm ls=0/\mpC m=0 then(Qa ((Qe (Qb ls m.inst) m).m.sum-(Qe (Qb ls m.inst) m).f.sum),Qa (Qe (Qb ls m.inst) m).f.sum,Qa (XT ls m.inst (fun z=>val z.c)-(Qe (Qb ls m.inst) m).m.sum),0) else([],[],[],1)
def ZcV(r:List UInt8×List UInt8×List UInt8×Int)(w:World)(e:Ending)(w':World):Prop:=e=.returned (.tuple #[S r.1,S r.2.1,S r.2.2.1,.int .i64 r.2.2.2])/\Below w.1.size w w'
theorem Ziu{l:List Int}{K:Nat}(h:∀i,(l.getD i 0).natAbs<10^K):∀t∈l.map Qa,t.length<=K+1:=by
 intro t ht;obtain⟨z,hz,rfl⟩:=List.mem_map.1 ht
 obtain⟨i,hi⟩:=List.getElem?_of_mem hz
 have:=h i
 rw[Xt hi] at this;exact Qd this
theorem Ziv{l:List Int}{K:Nat}(h:∀i,(l.getD i 0).natAbs<10^K)(hl:l.length<=1000):l.sum.natAbs<10^(K+4):=by
 have h1:=Vb (l:=l) (g:=fun z=>z) (L:=K) (fun a ha=>by
  obtain⟨i,hi⟩:=List.getElem?_of_mem ha
  have:=h i
  rwa [Xt hi] at this) hl
 rwa [List.map_id'] at h1
theorem Zjy(A:Option Addr)(n c:Nat)(ls:List Lot)(m:Mp)(w:World)(L:Nat)(hp:Env w)(hs:Xg w w.1.size A n ls)(hn:n<=9999)(hl:∀y∈ls,y.Sz 50000)(hm:m.Sz 5000\/m.Bad)
 (hL:L<=100) (hL1:1<=L) (hq:∀y∈ls,y.q.length<=L) (hc:∀y∈ls,y.c.length<=L) (hr:m.ratio.Sz L) (hsh:m.share.Sz L) (hpr:m.price.Sz L):
 Calls Tryz.prog 31 #[.slice A n c,MpV m] w (ZcV (JU ls m) w):=by
 have HPO:=jq (show ZcV (JU ls m) w=fun e w'=>e=.returned (.tuple #[S (JU ls m).1,S (JU ls m).2.1,S (JU ls m).2.2.1,.int .i64 (JU ls m).2.2.2])/\Below w.1.size w w' from rfl);generalize ZcV (JU ls m) w=post at*;have HVA:=jq (fun W (hb:Below w.1.size w W)=>Zch A n c ls m W (hp.here hb) (hs.here hb) hl hm (by omega));have HK0:=jq ((Kp.start hp).new w.1.size rfl (mpA m).toArray 75);rw[YG] at HK0;unfold MpV;rw[YG];unfold MpV at HVA;rw[YG] at HVA;obtain⟨z0,z1,z2,z3,z4,z5,z6,z7,z8,z9,z10⟩:=ZcH HK0.out (m:=m) (i:=0) rfl
 by_cases hv:Xm ls=0/\mpC m=0
 ·have hlok:=(Yd ls).1 hv.1;have hmok:=(VU m).1 hv.2;have HMV:=jq (show JU ls m=(Qa ((Qe (Qb ls m.inst) m).m.sum-(Qe (Qb ls m.inst) m).f.sum),Qa (Qe (Qb ls m.inst) m).f.sum,Qa (XT ls m.inst (fun z=>val z.c)-(Qe (Qb ls m.inst) m).m.sum),0) from if_pos hv);rw[decide_eq_true hv.1,decide_eq_true hv.2] at HVA;have HPR:=jq (fun W (hb:Below w.1.size w W)=>Zaw A n c ls m W L (hp.here hb) (hs.here hb) hlok hmok hL hL1 hq hc hr hsh hpr);have HTO:=jq (fun W (hb:Below w.1.size w W)=>Zca A n c ls m.inst W (hp.here hb) (hs.here hb) hn (fun y hy=>(hl y hy).q) (fun y hy=>(hl y hy).c));unfold MpV at HPR;rw[YG] at HPR;have hlo:(Qb ls m.inst).length<=1000:=Nat.le_trans (XI ls m.inst) hlok.len;have hplk:=ZaS (Qz hlok m.inst) hmok hlo hL1 (fun y hy=>hq y (List.mem_filter.1 hy).1) (fun y hy=>hc y (List.mem_filter.1 hy).1) hr hpr;obtain⟨l1,l2,l3,l4⟩:=QB (Qb ls m.inst) m
  have hcl:(Qa (XT ls m.inst (fun z=>val z.c))).length<=50000+5:=Jp (g:=(·.c)) (l:=Qb ls m.inst) (L:=50000) (fun y hy=>(hl y (List.mem_filter.1 hy).1).c) (by omega);have HPK:=jq hplk;have HL2:=jq l2;have HL3:=jq l3;have HLO:=jq hlo;have HLL:=jq hL;have HCL:=jq hcl;have sm:=Qd (Ziv hplk.m (by omega));have sf:=Qd (Ziv hplk.f (by omega));have HSM:=jq sm;have HSF:=jq sf;generalize JU ls m=mv at*;clear hp hs hn hl hm hq hc hr hsh hpr hL hL1 hv hlok hmok hplk l1 l2 l3 l4 hlo hcl sm sf;unfold S at*
  go_enter Tryz.func31,Tryz.ntmps31
  go_wp2_with fail
  generalize w.alloc _=W0 at*;refine(HVA.out _ HK0.out.bl).mono ?_;rintro e w1 ⟨rfl,hb1⟩;have HK1:=jq (HK0.out.here hb1);clear hb1 HK0 HVA z0 z1 z2 z3 z4 z5 z6 z7 z8 z9 z10;obtain⟨z0,z1,z2,z3,z4,z5,z6,z7,z8,z9,z10⟩:=ZcH HK1.out (m:=m) (i:=0) rfl
  go_wp2_with fail
  refine(HPR.out _ HK1.out.bl).mono ?_;rintro e w2 ⟨v,pn,pm,pf,pp,rfl,hvm,hM,hb2⟩;have HK2:=jq ((HK1.out.here hb2).new w2.1.size rfl #[.string ⟨#[]⟩,.int .i64 0,.string ⟨#[]⟩,.string ⟨#[]⟩,.string ⟨#[]⟩,.string ⟨#[]⟩,.string ⟨#[]⟩,.string ⟨#[]⟩,.string ⟨#[]⟩,.string ⟨#[]⟩,.bool false,.slice none 0 0,.string ⟨#[]⟩,.string ⟨#[]⟩,.string ⟨#[]⟩,.slice none 0 0,.slice none 0 0,.slice none 0 0,.slice none 0 0] 117)
  have hbA:Below w2.1.size w2 ((w2.alloc (.cells #[.string ⟨#[]⟩,.int .i64 0,.string ⟨#[]⟩,.string ⟨#[]⟩,.string ⟨#[]⟩,.string ⟨#[]⟩,.string ⟨#[]⟩,.string ⟨#[]⟩,.string ⟨#[]⟩,.string ⟨#[]⟩,.bool false,.slice none 0 0,.string ⟨#[]⟩,.string ⟨#[]⟩,.string ⟨#[]⟩,.slice none 0 0,.slice none 0 0,.slice none 0 0,.slice none 0 0] 117)).setRow w2.1.size (QN v)):=by
   refine⟨rfl,rfl,rfl,by simp[World.setRow],fun b hb=> ?_⟩;exact(setRow_other _ _ b _ (by omega)).trans (Below.heap_alloc w2 _ b hb)
  have HM3:=jq (hM.below hbA);have hst:=ZbF (HK2.out.at_ 0 rfl) rfl (Vs v) (ZaT v (by rw[hM.en];rfl) (by rw[hM.em];rfl) (by rw[hM.ef];rfl) (by rw[hM.ep];rfl));have HK3:=jq (show Kp w [(w2.1.size,QN v,117),(w.1.size,#[.string ⟨m.cause.toArray⟩,.int .i64 m.day,.string ⟨m.inst.toArray⟩,.string ⟨m.other.toArray⟩,.string ⟨m.ratio.n.toArray⟩,.string ⟨m.ratio.d.toArray⟩,.string ⟨m.share.n.toArray⟩,.string ⟨m.share.d.toArray⟩,.string ⟨m.price.n.toArray⟩,.string ⟨m.price.d.toArray⟩,.bool m.keep],75)] ((w2.alloc (.cells #[.string ⟨#[]⟩,.int .i64 0,.string ⟨#[]⟩,.string ⟨#[]⟩,.string ⟨#[]⟩,.string ⟨#[]⟩,.string ⟨#[]⟩,.string ⟨#[]⟩,.string ⟨#[]⟩,.string ⟨#[]⟩,.bool false,.slice none 0 0,.string ⟨#[]⟩,.string ⟨#[]⟩,.string ⟨#[]⟩,.slice none 0 0,.slice none 0 0,.slice none 0 0,.slice none 0 0] 117)).setRow w2.1.size (QN v)) from HK2.out.row 0 rfl (QN v));have HON:=jq hM.len;have HEM:=jq hM.em;have HEF:=jq hM.ef;have E16:=jq (show(QN v)[16]?=some v.q from rfl);have E17:=jq (show(QN v)[17]?=some v.f from rfl);rw[hM.em] at E16;rw[hM.ef] at E17;clear z0 z1 z2 z3 z4 z5 z6 z7 z8 z9 z10 hM hb2 HK1 HPR hvm hbA HK2;generalize hpb:QN v=pb at*;obtain⟨N,hN⟩:∃N,N=v.on:=⟨_,rfl⟩
  rw[<-hN] at E16 E17;have HNV:=jq hN;clear hN hpb;go_upto_region 4 with (fail)
  clear hst;generalize (w2.alloc (.cells #[.string ⟨#[]⟩,.int .i64 0,.string ⟨#[]⟩,.string ⟨#[]⟩,.string ⟨#[]⟩,.string ⟨#[]⟩,.string ⟨#[]⟩,.string ⟨#[]⟩,.string ⟨#[]⟩,.string ⟨#[]⟩,.bool false,.slice none 0 0,.string ⟨#[]⟩,.string ⟨#[]⟩,.string ⟨#[]⟩,.slice none 0 0,.slice none 0 0,.slice none 0 0,.slice none 0 0] 117)).setRow w2.1.size pb=W3 at*;generalize Qe (Qb ls m.inst) m=x at*;generalize Qb ls m.inst=old at*
  have HSA:=jq (show ∀X,Below W3.1.size W3 X->Calls Tryz.prog 70 #[.slice (some ⟨pm,0,none⟩) N N] X fun e w'=>e=.returned (.string ⟨(Qa x.m.sum).toArray⟩)/\Below X.1.size X w' from fun X hX=>by
   have hB:BlkB X pm (Qj x.m N N) 24:=by
    have h:=(HM3.out.bm).here hX;rw[<-HNV.out] at h;exact h
   have h:=Zav (some ⟨pm,0,none⟩) N N (x.m.map Qa) X (HK3.out.here hX).pw (JM hB (by rw[HL2.out,HNV.out];exact HON.out.symm)) (fun t ht=>Nat.le_trans (Ziu HPK.out.m t ht) (by have:=HLL.out;omega)) (by rw[HNV.out,HON.out];have:=HLO.out;omega);rw[ZdP] at h;exact h)
  have HSB:=jq (show ∀X,Below W3.1.size W3 X->Calls Tryz.prog 70 #[.slice (some ⟨pf,0,none⟩) N N] X fun e w'=>e=.returned (.string ⟨(Qa x.f.sum).toArray⟩)/\Below X.1.size X w' from fun X hX=>by
   have hB:BlkB X pf (Qj x.f N N) 24:=by
    have h:=(HM3.out.bf).here hX;rw[<-HNV.out] at h;exact h
   have h:=Zav (some ⟨pf,0,none⟩) N N (x.f.map Qa) X (HK3.out.here hX).pw (JM hB (by rw[HL3.out,HNV.out];exact HON.out.symm)) (fun t ht=>Nat.le_trans (Ziu HPK.out.f t ht) (by have:=HLL.out;omega)) (by rw[HNV.out,HON.out];have:=HLO.out;omega);rw[ZdP] at h;exact h)
  have HS1:=jq (fun X hX=>Yp (Qa x.m.sum) (Qa x.f.sum) X hX (by have:=HSM.out;have:=HLL.out;omega) (by have:=HSF.out;have:=HLL.out;omega));have HS2:=jq (fun X hX=>Yp (Qa (XT ls m.inst (fun z=>val z.c))) (Qa x.m.sum) X hX (by have:=HCL.out;omega) (by have:=HSM.out;have:=HLL.out;omega));rw[Qc,Qc] at HS1 HS2;clear HPK HL2 HL3 HLO HLL HCL HSM HSF HM3 HON;have HS4:=jq (show ∀X,Below W3.1.size W3 X->X.cell? ⟨w2.1.size,16,none⟩=some (.slice (some ⟨pm,0,none⟩) N N)/\X.cell? ⟨w2.1.size,17,none⟩=some (.slice (some ⟨pf,0,none⟩) N N) from fun X hX=>⟨(HK3.out.here hX).c 0 16 rfl E16.out,(HK3.out.here hX).c 0 17 rfl E17.out⟩);generalize Qa x.m.sum=tm at*;generalize Qa x.f.sum=tf at*;generalize Qa (x.m.sum-x.f.sum)=tmf at*
  go_cut [9,10] (fun a b wc=>a=.string ⟨tm.toArray⟩/\b=.string ⟨tf.toArray⟩/\Hid (Below W3.1.size W3 wc))
  case first=>
   have b0:Below W3.1.size W3 W3.drew:=(Below.refl _ _).drew;have s0:=HS4.out _ b0;obtain⟨s00,s01⟩:=HS4.out _ (Below.refl _ W3)
   go_region_held3 (fun X=>X.cell? ⟨w2.1.size,16,none⟩=some (.slice (some ⟨pm,0,none⟩) N N)/\X.cell? ⟨w2.1.size,17,none⟩=some (.slice (some ⟨pf,0,none⟩) N N))
    (first
      |with_reducible exact s2
      |with_reducible exact s1
      |with_reducible exact s0
      |go_keep)
    (first
      |(go_at_call_of 70 (Value.slice (some ⟨pm,0,none⟩) N N);first
         |(refine(HSA.out _ b1).mono ?_;rintro e y2 ⟨rfl,hy⟩
           have b2:=b1.trans (hy.mono b1.size);have s2:=HS4.out _ b2)
         |(refine(HSA.out _ b0).mono ?_;rintro e y1 ⟨rfl,hy⟩
           have b1:=b0.trans (hy.mono b0.size);have s1:=HS4.out _ b1))
      |(go_at_call_of 70 (Value.slice (some ⟨pf,0,none⟩) N N);first
         |(refine(HSB.out _ b1).mono ?_;rintro e y2 ⟨rfl,hy⟩
           have b2:=b1.trans (hy.mono b1.size);have s2:=HS4.out _ b2)
         |(refine(HSB.out _ b0).mono ?_;rintro e y1 ⟨rfl,hy⟩
           have b1:=b0.trans (hy.mono b0.size);have s1:=HS4.out _ b1)))
   all_goals
    go_wp2_with fail
    go_meet
    exact⟨rfl,rfl,b2⟩
  case rest=>
  obtain⟨rfl,rfl,HBC⟩:=hcut
  have HK4:=jq (HK3.out.here HBC.out);have zi:=HK4.out.c 1 2 rfl rfl;unfold ZaQ at HTO;unfold S at HTO;go_wp2_with fail
  refine(HTO.out _ HK4.out.bl).mono ?_;rintro e w5 ⟨rfl,hb5⟩;have HK5:=jq (HK4.out.here hb5);clear zi hb5;go_wp2_with fail
  refine(HS1.out _ HK5.out.po).mono ?_;rintro e w6 ⟨rfl,hb6⟩;have HK6:=jq (HK5.out.here hb6);unfold S;go_wp2_with fail
  refine(HS2.out _ HK6.out.po).mono ?_;rintro e w7 ⟨rfl,hb7⟩;unfold S;go_wp2_with fail
  refine bodyPost_ret (v:=.tuple #[.string ⟨tmf.toArray⟩,.string ⟨tf.toArray⟩,.string ⟨(Qa (XT ls m.inst (fun z=>val z.c)-x.m.sum)).toArray⟩,.int .i64 0]) (by simp[results,Tryz.results31,go_sem]) rfl ?_;rw[HPO.out,HMV.out];exact⟨rfl,(HK6.out.here hb7).bl⟩
 ·have HMV:=jq (show JU ls m=([],[],[],1) from if_neg hv)
  have hvb:(decide (Xm ls=0)&&decide (mpC m=0))=false:=by
   by_cases h1:Xm ls=0
   ·rw[decide_eq_true h1,decide_eq_false (fun h2=>hv ⟨h1,h2⟩)];rfl
   ·rw[decide_eq_false h1];rfl
  rw[hvb] at HVA;generalize JU ls m=mv at*;clear hp hs hn hl hm hq hc hr hsh hpr hL hL1 hv hvb;unfold S at*
  go_enter Tryz.func31,Tryz.ntmps31
  go_wp2_with fail
  generalize w.alloc _=W0 at*;refine(HVA.out _ HK0.out.bl).mono ?_;rintro e w1 ⟨rfl,hb1⟩;go_wp2_with fail
  refine bodyPost_ret (v:=.tuple #[.string ⟨#[]⟩,.string ⟨#[]⟩,.string ⟨#[]⟩,.int .i64 1]) (by simp[results,Tryz.results31,go_sem]) rfl ?_;rw[HPO.out,HMV.out];exact⟨rfl,(HK0.out.here hb1).bl⟩
end
end Go.Proofs.YtmamnnaiogidaaaGreatDoor
