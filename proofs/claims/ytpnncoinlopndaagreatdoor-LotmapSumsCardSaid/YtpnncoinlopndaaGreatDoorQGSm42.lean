/- LSm. -/
import Derived.Test.YtpnncoinlopndaaGreatDoorQGSm35
import Derived.Test.YtpnncoinlopndaaGreatDoorQGSm36
import Derived.Test.YtpnncoinlopndaaGreatDoorQGSm41
set_option maxRecDepth 100000
set_option maxHeartbeats 4000000
namespace Go.Proofs.YtpnncoinlopndaaGreatDoor
open Go.Lib renaming hid→hdz
section
open Go.RowKit Go.Shelf
attribute [local go_sem ↓] Go.wp_at_zero Go.wp_at_succ
theorem Zdz{ls:List Lot}{m:Mp}(h1:allC ls=0)(h2:mpC m=0):(planL (lotsOf ls m.inst) m).m.sum=(planL (lotsOf ls m.inst) m).moved∧(planL (lotsOf ls m.inst) m).f.sum=(planL (lotsOf ls m.inst) m).taken∧(planL (lotsOf ls m.inst) m).p.sum=(planL (lotsOf ls m.inst) m).cash:=by
 by_cases ho:lotsOf ls m.inst=[]
 ·rw[ho,ZhZ]
  exact⟨rfl,rfl,rfl⟩
 ·obtain⟨_,a,b,c,_⟩:=Zcs (ZaP ((ZbA ls).1 h1) m.inst) ((Zel m).1 h2) ho
  exact⟨a,b,c⟩
theorem Zkv(ls:List Lot)(m:Mp):cashL ls m=cashR ls m:=by
 unfold cashL cashR
 by_cases h:allC ls=0∧mpC m=0
 ·rw[if_pos h,if_pos h,(Zdz h.1 h.2).2.2]
 ·rw[if_neg h,if_neg h]
theorem ZlV(ls:List Lot)(m:Mp):movL ls m=movR ls m:=by
 unfold movL movR
 by_cases h:allC ls=0∧mpC m=0
 ·rw[if_pos h,if_pos h,(Zdz h.1 h.2).1,(Zdz h.1 h.2).2.1]
  rfl
 ·rw[if_neg h,if_neg h]
theorem Zkw(A:Option Addr)(n c:Nat)(ls:List Lot)(m:Mp)(q:List UInt8)(w:World)(hp:Env w)(hs:Lots w w.heap.size A n ls)(hcap:n≤c)(hn:n≤9223372036854775807)(hi:∀y∈ls,y.I)
 (hmm:m.Max) (hd: -9223372036854775808≤m.day∧m.day≤9223372036854775807) (hq:q.length≤9223372036854775807):
 Calls Tryz.prog 5 #[.slice A n c,MpV m,S q] w fun e w'=>e=.returned (.bool true)∧Below w.heap.size w w':=by
 have HGR:=hdz (fun W (hb:Below w.heap.size w W)=>Zg0 A n c ls m W (hs.here hb) hn hmm)
 have HAW:=hdz (fun W (hb:Below w.heap.size w W)=>Zhj W (hp.here hb))
 have H:=hdz ((Kp.start hp).new w.heap.size rfl #[.string ⟨m.cause.toArray⟩,.int .i64 m.day,.string ⟨m.inst.toArray⟩,.string ⟨m.other.toArray⟩,.string ⟨m.ratio.n.toArray⟩,.string ⟨m.ratio.d.toArray⟩,.string ⟨m.share.n.toArray⟩,.string ⟨m.share.d.toArray⟩,.string ⟨m.price.n.toArray⟩,.string ⟨m.price.d.toArray⟩,.bool m.keep] 28)
 have hqs:=Zag q
 obtain⟨x0,x1,x2,x3,x4,x5,x6,x7,x8,x9,x10⟩:=z11 H.out (i:=0) rfl
 unfold MpV at HGR ⊢
 rw[ZaM] at HGR ⊢
 cases hg:(grtL ls||longM m) with
 |true=>
  rw[hg] at HGR
  clear hp hs hn hi hmm hd hg hcap
  unfold S
  go_enter Tryz.func5,Tryz.ntmps5
  go_wp2_with fail
  generalize w.alloc _=W0 at*
  refine(HGR.out _ H.out.bl).mono ?_
  rintro e w1 ⟨rfl,hb1⟩
  have H1:=hdz (H.out.here hb1)
  clear x0 x1 x2 x3 x4 x5 x6 x7 x8 x9 x10 hb1
  go_wp2_with fail
  refine(HAW.out _ H1.out.bl).mono ?_
  rintro e wz ⟨rfl,hbz⟩
  go_wp2_with fail
  first|go_ret|skip
  exact⟨rfl,(H1.out.here hbz).bl⟩
 |false=>
  rw[hg] at HGR
  simp only[Bool.or_eq_false_iff] at hg
  obtain⟨hn2,hsz⟩:=ZmJ hg.1 hi
  obtain⟨har,hash,hapr,haz⟩:=Zlh hg.2 hd.1 hd.2
  have hn1:n≤1002:=by rw[hs.1];exact hn2
  by_cases h13:13<q.length
  ·have h13i:(13:Int)<(q.length:Int):=by omega
   clear hp hs hn hi hmm hd hg hcap hn2 hsz har hash hapr haz hn1 h13
   unfold S
   go_enter Tryz.func5,Tryz.ntmps5
   go_wp2_with fail
   generalize w.alloc _=W0 at*
   refine(HGR.out _ H.out.bl).mono ?_
   rintro e w1 ⟨rfl,hb1⟩
   have H1:=hdz (H.out.here hb1)
   clear x0 x1 x2 x3 x4 x5 x6 x7 x8 x9 x10 hb1
   go_wp2_with fail
   refine(HAW.out _ H1.out.bl).mono ?_
   rintro e wz ⟨rfl,hbz⟩
   go_wp2_with fail
   first|go_ret|skip
   exact⟨rfl,(H1.out.here hbz).bl⟩
  ·have h13i:¬(13:Int)<(q.length:Int):=by omega
   have hls5:∀y∈ls,y.Sz 50000:=fun y hy=>(hsz y hy).1.more (by omega)
   have hq13:∀y∈ls,y.q.length≤13:=fun y hy=>(hsz y hy).2.1
   have hc13:∀y∈ls,y.c.length≤13:=fun y hy=>(hsz y hy).2.2
   have haz5:m.Sz 5000∨m.Bad:=haz.imp (fun h=>h.more (by omega)) id
   have hzr:SzR ls m n 13:=⟨hn1,hls5,hq13,hc13,hmm,har.more (by omega),hash.more (by omega),hapr.more (by omega),by decide,by decide⟩
   have P1:=hdz (fun W hW=>Zkr q m.ratio W hW (by omega) (har.more (by omega)))
   have P2:=hdz (fun W hW=>ZeF q m.ratio W hW (by omega) (har.more (by omega)))
   have C1:=hdz (fun W (hb:Below w.heap.size w W)=>ZlO A n c ls m W 13 (hp.here hb) (hs.here hb) (by omega) hls5 haz5 (by decide) (by decide) hq13 hc13 (har.more (by omega)) (hash.more (by omega)) (hapr.more (by omega)))
   have C2:=hdz (fun W (hb:Below w.heap.size w W)=>ZiR A n c ls m W 13 (hp.here hb) (hs.here hb) hcap hzr)
   have M1:=hdz (fun W (hb:Below w.heap.size w W)=>Zkq A n c ls m W 13 (hp.here hb) (hs.here hb) (by omega) hls5 haz5 (by decide) (by decide) hq13 hc13 (har.more (by omega)) (hash.more (by omega)) (hapr.more (by omega)))
   have M2:=hdz (fun W (hb:Below w.heap.size w W)=>Zhh A n c ls m W 13 (hp.here hb) (hs.here hb) hcap hzr)
   rw[Zkv] at C1
   rw[ZlV] at M1
   clear hp hs hn hi hmm hd hg hcap hn2 hsz har hash hapr haz hn1 h13 hls5 hq13 hc13 haz5 hzr hq
   unfold PrtPost at P1 P2
   unfold CashPost at C1 C2
   unfold MovPost at M1 M2
   unfold MpV at C1 C2 M1 M2
   rw[ZaM] at C1 C2 M1 M2
   generalize (prtR q m.ratio).1=pa at*
   generalize (prtR q m.ratio).2.1=pf at*
   generalize (prtR q m.ratio).2.2=pe at*
   generalize (cashR ls m).1=ca at*
   generalize (cashR ls m).2=ce at*
   generalize (movR ls m).1=ma at*
   generalize (movR ls m).2.1=mb at*
   generalize (movR ls m).2.2.1=mc at*
   generalize (movR ls m).2.2.2=me at*
   unfold FrV at P1 P2
   unfold S at*
   go_enter Tryz.func5,Tryz.ntmps5
   go_wp2_with fail
   generalize w.alloc _=W0 at*
   refine(HGR.out _ H.out.bl).mono ?_
   rintro e w1 ⟨rfl,hb⟩
   replace H:=hdz (H.out.here hb)
   clear x0 x1 x2 x3 x4 x5 x6 x7 x8 x9 x10 hb
   obtain⟨x0,x1,x2,x3,x4,x5,x6,x7,x8,x9,x10⟩:=z11 H.out (i:=0) rfl
   go_wp2_with fail
   refine(P1.out _ H.out.pw).mono ?_
   rintro e w2 ⟨rfl,hb⟩
   have H2:=hdz ((H.out.here hb).new w2.heap.size rfl #[.string ⟨pf.n.toArray⟩,.string ⟨pf.d.toArray⟩] 26)
   clear x0 x1 x2 x3 x4 x5 x6 x7 x8 x9 x10 hb H
   obtain⟨x0,x1,x2,x3,x4,x5,x6,x7,x8,x9,x10⟩:=z11 H2.out (i:=1) rfl
   go_upto_region 4 with (fail)
   generalize w2.alloc _=W2 at*
   go_wp2_with fail
   refine(P2.out _ H2.out.pw).mono ?_
   rintro e w3 ⟨rfl,hb⟩
   have H3:=hdz ((H2.out.here hb).new w3.heap.size rfl #[.string ⟨pf.n.toArray⟩,.string ⟨pf.d.toArray⟩] 26)
   clear x0 x1 x2 x3 x4 x5 x6 x7 x8 x9 x10 hb H2
   obtain⟨x0,x1,x2,x3,x4,x5,x6,x7,x8,x9,x10⟩:=z11 H3.out (i:=2) rfl
   go_upto_region 5 with (fail)
   generalize w3.alloc _=W3 at*
   go_wp2_with fail
   refine(C1.out _ H3.out.bl).mono ?_
   rintro e w4 ⟨rfl,hb⟩
   replace H3:=hdz (H3.out.here hb)
   clear x0 x1 x2 x3 x4 x5 x6 x7 x8 x9 x10 hb
   obtain⟨x0,x1,x2,x3,x4,x5,x6,x7,x8,x9,x10⟩:=z11 H3.out (i:=2) rfl
   go_wp2_with fail
   refine(C2.out _ H3.out.bl).mono ?_
   rintro e w5 ⟨rfl,hb⟩
   replace H3:=hdz (H3.out.here hb)
   clear x0 x1 x2 x3 x4 x5 x6 x7 x8 x9 x10 hb
   obtain⟨x0,x1,x2,x3,x4,x5,x6,x7,x8,x9,x10⟩:=z11 H3.out (i:=2) rfl
   go_wp2_with fail
   refine(M1.out _ H3.out.bl).mono ?_
   rintro e w6 ⟨rfl,hb⟩
   replace H3:=hdz (H3.out.here hb)
   clear x0 x1 x2 x3 x4 x5 x6 x7 x8 x9 x10 hb
   obtain⟨x0,x1,x2,x3,x4,x5,x6,x7,x8,x9,x10⟩:=z11 H3.out (i:=2) rfl
   go_wp2_with fail
   refine(M2.out _ H3.out.bl).mono ?_
   rintro e w7 ⟨rfl,hb⟩
   replace H3:=hdz (H3.out.here hb)
   clear x0 x1 x2 x3 x4 x5 x6 x7 x8 x9 x10 hb
   have b0:=H3.out.c 1 0 rfl rfl;have b1:=H3.out.c 1 1 rfl rfl;have d0:=H3.out.c 0 0 rfl rfl;have d1:=H3.out.c 0 1 rfl rfl
   go_wp2_with fail
   refine(HAW.out _ H3.out.bl).mono ?_
   rintro e wz ⟨rfl,hbz⟩
   go_wp2_with fail
   first|go_ret|skip
   exact⟨rfl,(H3.out.here hbz).bl⟩
end
end Go.Proofs.YtpnncoinlopndaaGreatDoor
