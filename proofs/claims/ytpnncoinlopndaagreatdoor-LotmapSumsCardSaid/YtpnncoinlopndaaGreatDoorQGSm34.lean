/- Mo1. -/
import Derived.Test.YtpnncoinlopndaaGreatDoorQGSm33
set_option maxRecDepth 100000
set_option maxHeartbeats 4000000
namespace Go.Proofs.YtpnncoinlopndaaGreatDoor
open Go.Lib renaming hid→hdz
section
open Go.RowKit Go.Shelf
attribute [local go_sem ↓] Go.wp_at_zero Go.wp_at_succ Zce ZfI
def movL(ls:List Lot)(m:Mp):List UInt8×List UInt8×List UInt8×Int:=
 if allC ls=0∧mpC m=0 then(txtL ((planL (lotsOf ls m.inst) m).m.sum-(planL (lotsOf ls m.inst) m).f.sum),txtL (planL (lotsOf ls m.inst) m).f.sum,txtL (totL ls m.inst (fun z=>val z.c)-(planL (lotsOf ls m.inst) m).m.sum),0) else([],[],[],1)
def MovPost(r:List UInt8×List UInt8×List UInt8×Int)(w:World)(e:Ending)(w':World):Prop:=e=.returned (.tuple #[S r.1,S r.2.1,S r.2.2.1,.int .i64 r.2.2.2])∧Below w.heap.size w w'
theorem Zko{l:List Int}{K:Nat}(h:∀i,(l.getD i 0).natAbs<10^K):∀t∈l.map txtL,t.length≤K+1:=by
 intro t ht
 obtain⟨z,hz,rfl⟩:=List.mem_map.1 ht
 obtain⟨i,hi⟩:=List.getElem?_of_mem hz
 have:=h i
 rw[Zeo hi] at this
 exact Zab this
theorem Zkp{l:List Int}{K:Nat}(h:∀i,(l.getD i 0).natAbs<10^K)(hl:l.length≤1000):l.sum.natAbs<10^(K+4):=by
 have h1:=Zc6 (l:=l) (g:=fun z=>z) (L:=K) (fun a ha=>by
  obtain⟨i,hi⟩:=List.getElem?_of_mem ha
  have:=h i
  rwa [Zeo hi] at this) hl
 rwa [List.map_id'] at h1
theorem Zkq(A:Option Addr)(n c:Nat)(ls:List Lot)(m:Mp)(w:World)(L:Nat)(hp:Env w)(hs:Lots w w.heap.size A n ls)(hn:n≤9999)(hl:∀y∈ls,y.Sz 50000)(hm:m.Sz 5000∨m.Bad)
 (hL:L≤100) (hL1:1≤L) (hq:∀y∈ls,y.q.length≤L) (hc:∀y∈ls,y.c.length≤L) (hr:m.ratio.Sz L) (hsh:m.share.Sz L) (hpr:m.price.Sz L):
 Calls Tryz.prog 20 #[.slice A n c,MpV m] w (MovPost (movL ls m) w):=by
 have HPO:=hdz (show MovPost (movL ls m) w=fun e w'=>e=.returned (.tuple #[S (movL ls m).1,S (movL ls m).2.1,S (movL ls m).2.2.1,.int .i64 (movL ls m).2.2.2])∧Below w.heap.size w w' from rfl)
 generalize MovPost (movL ls m) w=post at*
 have HVA:=hdz (fun W (hb:Below w.heap.size w W)=>ZeH A n c ls m W (hp.here hb) (hs.here hb) hl hm (by omega))
 have HK0:=hdz ((Kp.start hp).new w.heap.size rfl (mpA m).toArray 28)
 rw[ZaM] at HK0
 unfold MpV
 rw[ZaM]
 unfold MpV at HVA
 rw[ZaM] at HVA
 obtain⟨z0,z1,z2,z3,z4,z5,z6,z7,z8,z9,z10⟩:=ZiT HK0.out (m:=m) (i:=0) rfl
 by_cases hv:allC ls=0∧mpC m=0
 ·have hlok:=(ZbA ls).1 hv.1;have hmok:=(Zel m).1 hv.2
  have HMV:=hdz (show movL ls m=(txtL ((planL (lotsOf ls m.inst) m).m.sum-(planL (lotsOf ls m.inst) m).f.sum),txtL (planL (lotsOf ls m.inst) m).f.sum,txtL (totL ls m.inst (fun z=>val z.c)-(planL (lotsOf ls m.inst) m).m.sum),0) from if_pos hv)
  rw[decide_eq_true hv.1,decide_eq_true hv.2] at HVA
  have HPR:=hdz (fun W (hb:Below w.heap.size w W)=>ZcR A n c ls m W L (hp.here hb) (hs.here hb) hlok hmok hL hL1 hq hc hr hsh hpr)
  have HTO:=hdz (fun W (hb:Below w.heap.size w W)=>Zkn A n c ls m.inst W (hp.here hb) (hs.here hb) hn (fun y hy=>(hl y hy).q) (fun y hy=>(hl y hy).c))
  unfold MpV at HPR
  rw[ZaM] at HPR
  have hlo:(lotsOf ls m.inst).length≤1000:=Nat.le_trans (Zbe ls m.inst) hlok.len
  have hplk:=Zds (ZaP hlok m.inst) hmok hlo hL1 (fun y hy=>hq y (List.mem_filter.1 hy).1) (fun y hy=>hc y (List.mem_filter.1 hy).1) hr hpr
  obtain⟨l1,l2,l3,l4⟩:=Za1 (lotsOf ls m.inst) m
  have hcl:(txtL (totL ls m.inst (fun z=>val z.c))).length≤50000+5:=ZfN (g:=(·.c)) (l:=lotsOf ls m.inst) (L:=50000) (fun y hy=>(hl y (List.mem_filter.1 hy).1).c) (by omega)
  have HPK:=hdz hplk;have HL2:=hdz l2;have HL3:=hdz l3;have HLO:=hdz hlo;have HLL:=hdz hL;have HCL:=hdz hcl
  have sm:=Zab (Zkp hplk.m (by omega));have sf:=Zab (Zkp hplk.f (by omega))
  have HSM:=hdz sm;have HSF:=hdz sf
  generalize movL ls m=mv at*
  clear hp hs hn hl hm hq hc hr hsh hpr hL hL1 hv hlok hmok hplk l1 l2 l3 l4 hlo hcl sm sf
  unfold S at*
  go_enter Tryz.func20,Tryz.ntmps20
  go_wp2_with fail
  generalize w.alloc _=W0 at*
  refine(HVA.out _ HK0.out.bl).mono ?_
  rintro e w1 ⟨rfl,hb1⟩
  have HK1:=hdz (HK0.out.here hb1)
  clear hb1 HK0 HVA z0 z1 z2 z3 z4 z5 z6 z7 z8 z9 z10
  obtain⟨z0,z1,z2,z3,z4,z5,z6,z7,z8,z9,z10⟩:=ZiT HK1.out (m:=m) (i:=0) rfl
  go_wp2_with fail
  refine(HPR.out _ HK1.out.bl).mono ?_
  rintro e w2 ⟨v,pn,pm,pf,pp,rfl,hvm,hM,hb2⟩
  have HK2:=hdz ((HK1.out.here hb2).new w2.heap.size rfl #[.string ⟨#[]⟩,.int .i64 0,.string ⟨#[]⟩,.string ⟨#[]⟩,.string ⟨#[]⟩,.string ⟨#[]⟩,.string ⟨#[]⟩,.string ⟨#[]⟩,.string ⟨#[]⟩,.string ⟨#[]⟩,.bool false,.slice none 0 0,.string ⟨#[]⟩,.string ⟨#[]⟩,.string ⟨#[]⟩,.slice none 0 0,.slice none 0 0,.slice none 0 0,.slice none 0 0] 60)
  have hbA:Below w2.heap.size w2 ((w2.alloc (.cells #[.string ⟨#[]⟩,.int .i64 0,.string ⟨#[]⟩,.string ⟨#[]⟩,.string ⟨#[]⟩,.string ⟨#[]⟩,.string ⟨#[]⟩,.string ⟨#[]⟩,.string ⟨#[]⟩,.string ⟨#[]⟩,.bool false,.slice none 0 0,.string ⟨#[]⟩,.string ⟨#[]⟩,.string ⟨#[]⟩,.slice none 0 0,.slice none 0 0,.slice none 0 0,.slice none 0 0] 60)).setRow w2.heap.size (plB v)):=by
   refine⟨rfl,rfl,rfl,by simp[World.setRow],fun b hb=> ?_⟩
   exact(setRow_other _ _ b _ (by omega)).trans (Below.heap_alloc w2 _ b hb)
  have HM3:=hdz (hM.below hbA)
  have hst:=ZdX (HK2.out.at_ 0 rfl) rfl (ZbO v) (Zdh v (by rw[hM.en];rfl) (by rw[hM.em];rfl) (by rw[hM.ef];rfl) (by rw[hM.ep];rfl))
  have HK3:=hdz (show Kp w [(w2.heap.size,plB v,60),(w.heap.size,#[.string ⟨m.cause.toArray⟩,.int .i64 m.day,.string ⟨m.inst.toArray⟩,.string ⟨m.other.toArray⟩,.string ⟨m.ratio.n.toArray⟩,.string ⟨m.ratio.d.toArray⟩,.string ⟨m.share.n.toArray⟩,.string ⟨m.share.d.toArray⟩,.string ⟨m.price.n.toArray⟩,.string ⟨m.price.d.toArray⟩,.bool m.keep],28)] ((w2.alloc (.cells #[.string ⟨#[]⟩,.int .i64 0,.string ⟨#[]⟩,.string ⟨#[]⟩,.string ⟨#[]⟩,.string ⟨#[]⟩,.string ⟨#[]⟩,.string ⟨#[]⟩,.string ⟨#[]⟩,.string ⟨#[]⟩,.bool false,.slice none 0 0,.string ⟨#[]⟩,.string ⟨#[]⟩,.string ⟨#[]⟩,.slice none 0 0,.slice none 0 0,.slice none 0 0,.slice none 0 0] 60)).setRow w2.heap.size (plB v)) from HK2.out.row 0 rfl (plB v))
  have HON:=hdz hM.len
  have HEM:=hdz hM.em;have HEF:=hdz hM.ef
  have E16:=hdz (show(plB v)[16]?=some v.q from rfl)
  have E17:=hdz (show(plB v)[17]?=some v.f from rfl)
  rw[hM.em] at E16
  rw[hM.ef] at E17
  clear z0 z1 z2 z3 z4 z5 z6 z7 z8 z9 z10 hM hb2 HK1 HPR hvm hbA HK2
  generalize hpb:plB v=pb at*
  obtain⟨N,hN⟩:∃N,N=v.on:=⟨_,rfl⟩
  rw[←hN] at E16 E17
  have HNV:=hdz hN
  clear hN hpb
  go_upto_region 4 with (fail)
  clear hst
  generalize (w2.alloc (.cells #[.string ⟨#[]⟩,.int .i64 0,.string ⟨#[]⟩,.string ⟨#[]⟩,.string ⟨#[]⟩,.string ⟨#[]⟩,.string ⟨#[]⟩,.string ⟨#[]⟩,.string ⟨#[]⟩,.string ⟨#[]⟩,.bool false,.slice none 0 0,.string ⟨#[]⟩,.string ⟨#[]⟩,.string ⟨#[]⟩,.slice none 0 0,.slice none 0 0,.slice none 0 0,.slice none 0 0] 60)).setRow w2.heap.size pb=W3 at*
  generalize planL (lotsOf ls m.inst) m=x at*
  generalize lotsOf ls m.inst=old at*
  have HSA:=hdz (show ∀X,Below W3.heap.size W3 X→Calls Tryz.prog 65 #[.slice (some ⟨pm,0,none⟩) N N] X fun e w'=>e=.returned (.string ⟨(txtL x.m.sum).toArray⟩)∧Below X.heap.size X w' from fun X hX=>by
   have hB:BlkB X pm (partA x.m N N) 24:=by
    have h:=(HM3.out.bm).here hX
    rw[←HNV.out] at h
    exact h
   have h:=Zc3 (some ⟨pm,0,none⟩) N N (x.m.map txtL) X (HK3.out.here hX).pw (ZaB hB (by rw[HL2.out,HNV.out];exact HON.out.symm)) (fun t ht=>Nat.le_trans (Zko HPK.out.m t ht) (by have:=HLL.out;omega)) (by rw[HNV.out,HON.out];have:=HLO.out;omega)
   rw[ZfK] at h
   exact h)
  have HSB:=hdz (show ∀X,Below W3.heap.size W3 X→Calls Tryz.prog 65 #[.slice (some ⟨pf,0,none⟩) N N] X fun e w'=>e=.returned (.string ⟨(txtL x.f.sum).toArray⟩)∧Below X.heap.size X w' from fun X hX=>by
   have hB:BlkB X pf (partA x.f N N) 24:=by
    have h:=(HM3.out.bf).here hX
    rw[←HNV.out] at h
    exact h
   have h:=Zc3 (some ⟨pf,0,none⟩) N N (x.f.map txtL) X (HK3.out.here hX).pw (ZaB hB (by rw[HL3.out,HNV.out];exact HON.out.symm)) (fun t ht=>Nat.le_trans (Zko HPK.out.f t ht) (by have:=HLL.out;omega)) (by rw[HNV.out,HON.out];have:=HLO.out;omega)
   rw[ZfK] at h
   exact h)
  have HS1:=hdz (fun X hX=>ZcI (txtL x.m.sum) (txtL x.f.sum) X hX (by have:=HSM.out;have:=HLL.out;omega) (by have:=HSF.out;have:=HLL.out;omega))
  have HS2:=hdz (fun X hX=>ZcI (txtL (totL ls m.inst (fun z=>val z.c))) (txtL x.m.sum) X hX (by have:=HCL.out;omega) (by have:=HSM.out;have:=HLL.out;omega))
  rw[Zaa,Zaa] at HS1 HS2
  clear HPK HL2 HL3 HLO HLL HCL HSM HSF HM3 HON
  have HS4:=hdz (show ∀X,Below W3.heap.size W3 X→X.cell? ⟨w2.heap.size,16,none⟩=some (.slice (some ⟨pm,0,none⟩) N N)∧X.cell? ⟨w2.heap.size,17,none⟩=some (.slice (some ⟨pf,0,none⟩) N N) from fun X hX=>⟨(HK3.out.here hX).c 0 16 rfl E16.out,(HK3.out.here hX).c 0 17 rfl E17.out⟩)
  generalize txtL x.m.sum=tm at*
  generalize txtL x.f.sum=tf at*
  generalize txtL (x.m.sum-x.f.sum)=tmf at*
  go_cut [9,10] (fun a b wc=>a=.string ⟨tm.toArray⟩∧b=.string ⟨tf.toArray⟩∧Hid (Below W3.heap.size W3 wc))
  case first=>
   have b0:Below W3.heap.size W3 W3.drew:=(Below.refl _ _).drew
   have s0:=HS4.out _ b0
   obtain⟨s00,s01⟩:=HS4.out _ (Below.refl _ W3)
   go_region_held3 (fun X=>X.cell? ⟨w2.heap.size,16,none⟩=some (.slice (some ⟨pm,0,none⟩) N N)∧X.cell? ⟨w2.heap.size,17,none⟩=some (.slice (some ⟨pf,0,none⟩) N N))
    (first
      |with_reducible exact s2
      |with_reducible exact s1
      |with_reducible exact s0
      |go_keep)
    (first
      |(go_at_call_of 65 (Value.slice (some ⟨pm,0,none⟩) N N);first
         |(refine(HSA.out _ b1).mono ?_;rintro e y2 ⟨rfl,hy⟩
           have b2:=b1.trans (hy.mono b1.size)
           have s2:=HS4.out _ b2)
         |(refine(HSA.out _ b0).mono ?_;rintro e y1 ⟨rfl,hy⟩
           have b1:=b0.trans (hy.mono b0.size)
           have s1:=HS4.out _ b1))
      |(go_at_call_of 65 (Value.slice (some ⟨pf,0,none⟩) N N);first
         |(refine(HSB.out _ b1).mono ?_;rintro e y2 ⟨rfl,hy⟩
           have b2:=b1.trans (hy.mono b1.size)
           have s2:=HS4.out _ b2)
         |(refine(HSB.out _ b0).mono ?_;rintro e y1 ⟨rfl,hy⟩
           have b1:=b0.trans (hy.mono b0.size)
           have s1:=HS4.out _ b1)))
   all_goals
    go_wp2_with fail
    go_meet
    exact⟨rfl,rfl,b2⟩
  case rest=>
  obtain⟨rfl,rfl,HBC⟩:=hcut
  have HK4:=hdz (HK3.out.here HBC.out)
  have zi:=HK4.out.c 1 2 rfl rfl
  unfold TotPost at HTO
  unfold S at HTO
  go_wp2_with fail
  refine(HTO.out _ HK4.out.bl).mono ?_
  rintro e w5 ⟨rfl,hb5⟩
  have HK5:=hdz (HK4.out.here hb5)
  clear zi hb5
  go_wp2_with fail
  refine(HS1.out _ HK5.out.po).mono ?_
  rintro e w6 ⟨rfl,hb6⟩
  have HK6:=hdz (HK5.out.here hb6)
  unfold S
  go_wp2_with fail
  refine(HS2.out _ HK6.out.po).mono ?_
  rintro e w7 ⟨rfl,hb7⟩
  unfold S
  go_wp2_with fail
  refine bodyPost_ret (v:=.tuple #[.string ⟨tmf.toArray⟩,.string ⟨tf.toArray⟩,.string ⟨(txtL (totL ls m.inst (fun z=>val z.c)-x.m.sum)).toArray⟩,.int .i64 0]) (by simp[results,Tryz.results20,go_sem]) rfl ?_
  rw[HPO.out,HMV.out]
  exact⟨rfl,(HK6.out.here hb7).bl⟩
 ·have HMV:=hdz (show movL ls m=([],[],[],1) from if_neg hv)
  have hvb:(decide (allC ls=0)&&decide (mpC m=0))=false:=by
   by_cases h1:allC ls=0
   ·rw[decide_eq_true h1,decide_eq_false (fun h2=>hv ⟨h1,h2⟩)];rfl
   ·rw[decide_eq_false h1];rfl
  rw[hvb] at HVA
  generalize movL ls m=mv at*
  clear hp hs hn hl hm hq hc hr hsh hpr hL hL1 hv hvb
  unfold S at*
  go_enter Tryz.func20,Tryz.ntmps20
  go_wp2_with fail
  generalize w.alloc _=W0 at*
  refine(HVA.out _ HK0.out.bl).mono ?_
  rintro e w1 ⟨rfl,hb1⟩
  go_wp2_with fail
  refine bodyPost_ret (v:=.tuple #[.string ⟨#[]⟩,.string ⟨#[]⟩,.string ⟨#[]⟩,.int .i64 1]) (by simp[results,Tryz.results20,go_sem]) rfl ?_
  rw[HPO.out,HMV.out]
  exact⟨rfl,(HK0.out.here hb1).bl⟩
end
end Go.Proofs.YtpnncoinlopndaaGreatDoor
