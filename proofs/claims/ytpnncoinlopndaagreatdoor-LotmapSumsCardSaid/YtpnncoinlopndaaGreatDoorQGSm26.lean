/- Th, RMc, Rq9. -/
import Derived.Test.YtpnncoinlopndaaGreatDoorQGSm25
import Derived.Test.YtpnncoinlopndaaGreatDoorQGSm23
set_option maxRecDepth 100000
set_option maxHeartbeats 4000000
namespace Go.Proofs.YtpnncoinlopndaaGreatDoor
open Go.Lib renaming hid→hdz
section
open Go.RowKit Go.Shelf
attribute [local go_sem ↓] Go.wp_at_zero Go.wp_at_succ
theorem z11{w W:World}{bs:List (Nat×Array Value×TypeId)}{p i:Nat}{c0 c1 c2 c3 c4 c5 c6 c7 c8 c9 c10:Value}{T:TypeId}(h:Kp w bs W)(hb:bs[i]?=some (p,#[c0,c1,c2,c3,c4,c5,c6,c7,c8,c9,c10],T)):
 W.cell? ⟨p,0,none⟩=some c0∧W.cell? ⟨p,1,none⟩=some c1∧W.cell? ⟨p,2,none⟩=some c2∧W.cell? ⟨p,3,none⟩=some c3∧W.cell? ⟨p,4,none⟩=some c4∧W.cell? ⟨p,5,none⟩=some c5∧W.cell? ⟨p,6,none⟩=some c6∧W.cell? ⟨p,7,none⟩=some c7∧W.cell? ⟨p,8,none⟩=some c8∧W.cell? ⟨p,9,none⟩=some c9∧W.cell? ⟨p,10,none⟩=some c10:=
 ⟨h.c i 0 hb rfl,h.c i 1 hb rfl,h.c i 2 hb rfl,h.c i 3 hb rfl,h.c i 4 hb rfl,h.c i 5 hb rfl,h.c i 6 hb rfl,h.c i 7 hb rfl,h.c i 8 hb rfl,h.c i 9 hb rfl,h.c i 10 hb rfl⟩
theorem Zbp{w W:World}{bs:List (Nat×Array Value×TypeId)}{p i:Nat}{cs:Array Value}{T:TypeId}(hlt:i<bs.length)(j:Nat)(v:Value)(hk:Kp w (bs.set i (p,cs,T)) W):Kp w (bs.set i (p,cs.setIfInBounds j v,T)) (W.setCell ⟨p,j,none⟩ v):=by
 have:=hk.set i j (List.getElem?_set_self hlt) v
 rwa [List.set_set] at this
theorem ZlJ{α:Type}{l:List α}{i:Nat}{a:α}(h:l[i]?=some a):l.set i a=l:=by
 refine List.ext_getElem? fun k=> ?_
 rw[List.getElem?_set]
 split
 ·rename_i e
  subst e
  rw[h]
  split
  ·rfl
  ·rename_i e2;exact absurd (List.getElem?_eq_some_iff.1 h).1 e2
 ·rfl
theorem Zgu{w W:World}{bs:List (Nat×Array Value×TypeId)}{p i:Nat}{c0 c1 c2 c3 c4 c5 c6 c7 c8 c9 c10:Value}{T:TypeId}(h:Kp w bs W)(hb:bs[i]?=some (p,#[c0,c1,c2,c3,c4,c5,c6,c7,c8,c9,c10],T))(d0 d1 d2 d3 d4 d5 d6 d7 d8 d9 d10:Value):
 Kp w (bs.set i (p,#[d0,d1,d2,d3,d4,d5,d6,d7,d8,d9,d10],T)) (((((((((((W.setCell ⟨p,0,none⟩ d0).setCell ⟨p,1,none⟩ d1).setCell ⟨p,2,none⟩ d2).setCell ⟨p,3,none⟩ d3).setCell ⟨p,4,none⟩ d4).setCell ⟨p,5,none⟩ d5).setCell ⟨p,6,none⟩ d6).setCell ⟨p,7,none⟩ d7).setCell ⟨p,8,none⟩ d8).setCell ⟨p,9,none⟩ d9).setCell ⟨p,10,none⟩ d10):=by
 have hlt:=(List.getElem?_eq_some_iff.1 hb).1
 have h0:Kp w (bs.set i (p,#[c0,c1,c2,c3,c4,c5,c6,c7,c8,c9,c10],T)) W:=by rw[ZlJ hb];exact h
 have h1:Kp w (bs.set i (p,#[d0,c1,c2,c3,c4,c5,c6,c7,c8,c9,c10],T)) (W.setCell ⟨p,0,none⟩ d0):=Zbp hlt 0 d0 h0
 have h2:Kp w (bs.set i (p,#[d0,d1,c2,c3,c4,c5,c6,c7,c8,c9,c10],T)) ((W.setCell ⟨p,0,none⟩ d0).setCell ⟨p,1,none⟩ d1):=Zbp hlt 1 d1 h1
 have h3:Kp w (bs.set i (p,#[d0,d1,d2,c3,c4,c5,c6,c7,c8,c9,c10],T)) (((W.setCell ⟨p,0,none⟩ d0).setCell ⟨p,1,none⟩ d1).setCell ⟨p,2,none⟩ d2):=Zbp hlt 2 d2 h2
 have h4:Kp w (bs.set i (p,#[d0,d1,d2,d3,c4,c5,c6,c7,c8,c9,c10],T)) ((((W.setCell ⟨p,0,none⟩ d0).setCell ⟨p,1,none⟩ d1).setCell ⟨p,2,none⟩ d2).setCell ⟨p,3,none⟩ d3):=Zbp hlt 3 d3 h3
 have h5:Kp w (bs.set i (p,#[d0,d1,d2,d3,d4,c5,c6,c7,c8,c9,c10],T)) (((((W.setCell ⟨p,0,none⟩ d0).setCell ⟨p,1,none⟩ d1).setCell ⟨p,2,none⟩ d2).setCell ⟨p,3,none⟩ d3).setCell ⟨p,4,none⟩ d4):=Zbp hlt 4 d4 h4
 have h6:Kp w (bs.set i (p,#[d0,d1,d2,d3,d4,d5,c6,c7,c8,c9,c10],T)) ((((((W.setCell ⟨p,0,none⟩ d0).setCell ⟨p,1,none⟩ d1).setCell ⟨p,2,none⟩ d2).setCell ⟨p,3,none⟩ d3).setCell ⟨p,4,none⟩ d4).setCell ⟨p,5,none⟩ d5):=Zbp hlt 5 d5 h5
 have h7:Kp w (bs.set i (p,#[d0,d1,d2,d3,d4,d5,d6,c7,c8,c9,c10],T)) (((((((W.setCell ⟨p,0,none⟩ d0).setCell ⟨p,1,none⟩ d1).setCell ⟨p,2,none⟩ d2).setCell ⟨p,3,none⟩ d3).setCell ⟨p,4,none⟩ d4).setCell ⟨p,5,none⟩ d5).setCell ⟨p,6,none⟩ d6):=Zbp hlt 6 d6 h6
 have h8:Kp w (bs.set i (p,#[d0,d1,d2,d3,d4,d5,d6,d7,c8,c9,c10],T)) ((((((((W.setCell ⟨p,0,none⟩ d0).setCell ⟨p,1,none⟩ d1).setCell ⟨p,2,none⟩ d2).setCell ⟨p,3,none⟩ d3).setCell ⟨p,4,none⟩ d4).setCell ⟨p,5,none⟩ d5).setCell ⟨p,6,none⟩ d6).setCell ⟨p,7,none⟩ d7):=Zbp hlt 7 d7 h7
 have h9:Kp w (bs.set i (p,#[d0,d1,d2,d3,d4,d5,d6,d7,d8,c9,c10],T)) (((((((((W.setCell ⟨p,0,none⟩ d0).setCell ⟨p,1,none⟩ d1).setCell ⟨p,2,none⟩ d2).setCell ⟨p,3,none⟩ d3).setCell ⟨p,4,none⟩ d4).setCell ⟨p,5,none⟩ d5).setCell ⟨p,6,none⟩ d6).setCell ⟨p,7,none⟩ d7).setCell ⟨p,8,none⟩ d8):=Zbp hlt 8 d8 h8
 have h10:Kp w (bs.set i (p,#[d0,d1,d2,d3,d4,d5,d6,d7,d8,d9,c10],T)) ((((((((((W.setCell ⟨p,0,none⟩ d0).setCell ⟨p,1,none⟩ d1).setCell ⟨p,2,none⟩ d2).setCell ⟨p,3,none⟩ d3).setCell ⟨p,4,none⟩ d4).setCell ⟨p,5,none⟩ d5).setCell ⟨p,6,none⟩ d6).setCell ⟨p,7,none⟩ d7).setCell ⟨p,8,none⟩ d8).setCell ⟨p,9,none⟩ d9):=Zbp hlt 9 d9 h9
 have h11:Kp w (bs.set i (p,#[d0,d1,d2,d3,d4,d5,d6,d7,d8,d9,d10],T)) (((((((((((W.setCell ⟨p,0,none⟩ d0).setCell ⟨p,1,none⟩ d1).setCell ⟨p,2,none⟩ d2).setCell ⟨p,3,none⟩ d3).setCell ⟨p,4,none⟩ d4).setCell ⟨p,5,none⟩ d5).setCell ⟨p,6,none⟩ d6).setCell ⟨p,7,none⟩ d7).setCell ⟨p,8,none⟩ d8).setCell ⟨p,9,none⟩ d9).setCell ⟨p,10,none⟩ d10):=Zbp hlt 10 d10 h10
 exact h11
end
section
open Go.RowKit Go.Shelf
theorem Zck(f:Fr):(decide f.ok=true∧chkF f=0)∨(decide f.ok=false∧chkF f=1):=by
 unfold chkF
 by_cases h:f.ok
 ·exact .inl ⟨decide_eq_true h,if_pos h⟩
 ·exact .inr ⟨decide_eq_false h,if_neg h⟩
theorem Zhc(m:Mp)(hm:m.Max)(hr:m.ratio.Sz 15000)(hs:m.share.Sz 15000)(hz:m.price.Sz 15000):Gives 11 #[MpV m] (.int .i64 (mpC m)):=by
 intro w hp
 have HPO:=hdz (ZhJ m)
 have HDB:=hdz (show dayB m.day=(decide (-25567≤m.day)&&decide (m.day≤84005)) from rfl)
 generalize mpC m=res at*
 have H:=hdz ((Kp.start hp).new w.heap.size rfl #[.string ⟨m.cause.toArray⟩,.int .i64 m.day,.string ⟨m.inst.toArray⟩,.string ⟨m.other.toArray⟩,.string ⟨m.ratio.n.toArray⟩,.string ⟨m.ratio.d.toArray⟩,.string ⟨m.share.n.toArray⟩,.string ⟨m.share.d.toArray⟩,.string ⟨m.price.n.toArray⟩,.string ⟨m.price.d.toArray⟩,.bool m.keep] 28)
 have HN1:=hdz (fun W=>Zci m.cause W hm.cause);have HN2:=hdz (fun W=>Zci m.inst W hm.inst);have HN3:=hdz (fun W=>Zci m.other W hm.other)
 have HC1:=hdz (fun W=>Zcw m.ratio W (hr.more (by omega)));have HC2:=hdz (fun W=>Zcw m.share W (hs.more (by omega)));have HC3:=hdz (fun W=>Zcw m.price W (hz.more (by omega)))
 have K1:=hdz (Zck m.ratio);have K2:=hdz (Zck m.share);have K3:=hdz (Zck m.price)
 have HO1:=hdz (fun W=>ZbF [49] W (by simp))
 rw[show((val [49]:Int):Rat)=1 by rw[show val [49]=1 from by decide];rfl] at HO1
 have hosz:(frOf 1).Sz 20000:=by rw[show(1:Rat)=((1:Int):Rat) from rfl,ZbZ];exact⟨by decide+kernel,by simp⟩
 have hzz:(⟨[],[]⟩:Fr).Sz 20000:=⟨by simp,by simp⟩
 have HS1:=hdz (fun W=>Zat m.ratio ⟨[],[]⟩ W (hr.more (by omega)) hzz);have HS2:=hdz (fun W=>Zat m.share ⟨[],[]⟩ W (hs.more (by omega)) hzz);have HS4:=hdz (fun W=>Zat m.price ⟨[],[]⟩ W (hz.more (by omega)) hzz)
 have HS3:=hdz (fun W=>Zat m.share (frOf 1) W (hs.more (by omega)) hosz)
 rw[show(⟨[],[]⟩:Fr).rat=0 from ZdM] at HS1 HS2 HS4
 rw[Zac] at HS3
 have E1:=hdz (Zfy m.ratio.rat 0);have E2:=hdz (Zer m.share.rat 0);have E3:=hdz (ZgY m.share.rat 1);have E4:=hdz (Zer m.price.rat 0)
 clear hosz hzz hm hp hr hs hz
 generalize cmpR m.ratio.rat 0=z1 at *; generalize cmpR m.share.rat 0=z2 at *; generalize cmpR m.share.rat 1=z3 at *; generalize cmpR m.price.rat 0=z4 at*
 generalize decide (m.ratio.rat≤0)=r1 at *; generalize decide (m.share.rat<0)=r2 at *; generalize decide (1<m.share.rat)=r3 at *; generalize decide (m.price.rat<0)=r4 at*
 generalize decide m.ratio.ok=o1 at *; generalize decide m.share.ok=o2 at *; generalize decide m.price.ok=o3 at*
 generalize chkF m.ratio=c1 at *; generalize chkF m.share=c2 at *; generalize chkF m.price=c3 at*
 generalize frOf 1=one at*
 generalize nameB m.cause=n1 at *; generalize nameB m.inst=n2 at *; generalize nameB m.other=n3 at*
 unfold CmpIPost FracPost FrV at*
 unfold MpV S at*
 rw[ZaM]
 go_enter Tryz.func11,Tryz.ntmps11
 go_wp2_with fail
 generalize w.alloc _=W0 at*
 obtain⟨x0,x1,x2,x3,x4,x5,x6,x7,x8,x9,x10⟩:=z11 H.out (i:=0) rfl
 go_wp2_with fail
 refine(HN1.out _).mono ?_
 rintro e w1 ⟨rfl,rfl⟩
 cases n1 with
 |false=>
  go_wp2_with fail
  first|go_ret|skip
  exact⟨Zad (HPO.out.trans (by simp)).symm,H.out.bl⟩
 |true=>
 go_wp2_with fail
 refine(HN2.out _).mono ?_
 rintro e w1 ⟨rfl,rfl⟩
 cases n2 with
 |false=>
  go_wp2_with fail
  first|go_ret|skip
  exact⟨Zad (HPO.out.trans (by simp)).symm,H.out.bl⟩
 |true=>
 go_wp2_with fail
 refine(HN3.out _).mono ?_
 rintro e w1 ⟨rfl,rfl⟩
 cases n3 with
 |false=>
  go_wp2_with fail
  first|go_ret|skip
  exact⟨Zad (HPO.out.trans (by simp)).symm,H.out.bl⟩
 |true=>
 by_cases hd1:m.day< -25567
 ·rw[decide_eq_false (show ¬ -25567≤m.day by omega)] at HDB
  rw[HDB.out] at HPO
  go_wp2_with fail
  first|go_ret|skip
  exact⟨Zad (HPO.out.trans (by simp)).symm,H.out.bl⟩
 by_cases hd2:84005<m.day
 ·rw[decide_eq_false (show ¬m.day≤84005 by omega)] at HDB
  rw[HDB.out] at HPO
  go_wp2_with fail
  first|go_ret|skip
  exact⟨Zad (HPO.out.trans (by simp)).symm,H.out.bl⟩
 rw[decide_eq_true (show-25567≤m.day by omega),decide_eq_true (show m.day≤84005 by omega)] at HDB
 rw[HDB.out] at HPO
 go_wp2_with fail
 refine(HC1.out _).mono ?_
 rintro e w1 ⟨rfl,hb⟩
 replace H:=hdz (H.out.here hb)
 clear x0 x1 x2 x3 x4 x5 x6 x7 x8 x9 x10 hb
 obtain⟨x0,x1,x2,x3,x4,x5,x6,x7,x8,x9,x10⟩:=z11 H.out (i:=0) rfl
 rcases K1.out with ⟨rfl,rfl⟩|⟨rfl,rfl⟩
 rotate_left
 ·go_wp2_with fail
  first|go_ret|skip
  exact⟨Zad (HPO.out.trans (by simp)).symm,H.out.bl⟩
 go_wp2_with fail
 refine(HC2.out _).mono ?_
 rintro e w1 ⟨rfl,hb⟩
 replace H:=hdz (H.out.here hb)
 clear x0 x1 x2 x3 x4 x5 x6 x7 x8 x9 x10 hb
 obtain⟨x0,x1,x2,x3,x4,x5,x6,x7,x8,x9,x10⟩:=z11 H.out (i:=0) rfl
 rcases K2.out with ⟨rfl,rfl⟩|⟨rfl,rfl⟩
 rotate_left
 ·go_wp2_with fail
  first|go_ret|skip
  exact⟨Zad (HPO.out.trans (by simp)).symm,H.out.bl⟩
 go_wp2_with fail
 refine(HC3.out _).mono ?_
 rintro e w1 ⟨rfl,hb⟩
 replace H:=hdz (H.out.here hb)
 clear x0 x1 x2 x3 x4 x5 x6 x7 x8 x9 x10 hb
 obtain⟨x0,x1,x2,x3,x4,x5,x6,x7,x8,x9,x10⟩:=z11 H.out (i:=0) rfl
 rcases K3.out with ⟨rfl,rfl⟩|⟨rfl,rfl⟩
 rotate_left
 ·go_wp2_with fail
  first|go_ret|skip
  exact⟨Zad (HPO.out.trans (by simp)).symm,H.out.bl⟩
 go_wp2_with fail
 refine(HO1.out _).mono ?_
 rintro e w1 ⟨rfl,hb⟩
 replace H:=hdz ((H.out.here hb).new w1.heap.size rfl #[.string ⟨one.n.toArray⟩,.string ⟨one.d.toArray⟩] 26)
 clear x0 x1 x2 x3 x4 x5 x6 x7 x8 x9 x10 hb
 go_upto_region 8 with (fail)
 generalize w1.alloc _=W1 at*
 obtain⟨x0,x1,x2,x3,x4,x5,x6,x7,x8,x9,x10⟩:=z11 H.out (i:=1) rfl
 have q0:=H.out.c 0 0 rfl rfl;have q1:=H.out.c 0 1 rfl rfl
 go_wp2_with fail
 refine(HS1.out _).mono ?_
 rintro e w2 ⟨rfl,hb⟩
 replace H:=hdz (H.out.here hb)
 clear x0 x1 x2 x3 x4 x5 x6 x7 x8 x9 x10 hb q0 q1
 obtain⟨x0,x1,x2,x3,x4,x5,x6,x7,x8,x9,x10⟩:=z11 H.out (i:=1) rfl
 have q0:=H.out.c 0 0 rfl rfl;have q1:=H.out.c 0 1 rfl rfl
 by_cases hz1:z1≤0
 ·rw[decide_eq_true hz1] at E1
  rw[←E1.out] at HPO
  go_wp2_with fail
  first|go_ret|skip
  exact⟨Zad (HPO.out.trans (by simp)).symm,H.out.bl⟩
 rw[decide_eq_false hz1] at E1
 rw[←E1.out] at HPO
 go_wp2_with fail
 refine(HS2.out _).mono ?_
 rintro e w2 ⟨rfl,hb⟩
 replace H:=hdz (H.out.here hb)
 clear x0 x1 x2 x3 x4 x5 x6 x7 x8 x9 x10 hb q0 q1
 obtain⟨x0,x1,x2,x3,x4,x5,x6,x7,x8,x9,x10⟩:=z11 H.out (i:=1) rfl
 have q0:=H.out.c 0 0 rfl rfl;have q1:=H.out.c 0 1 rfl rfl
 by_cases hz2:z2<0
 ·rw[decide_eq_true hz2] at E2
  rw[←E2.out] at HPO
  go_wp2_with fail
  first|go_ret|skip
  exact⟨Zad (HPO.out.trans (by simp)).symm,H.out.bl⟩
 rw[decide_eq_false hz2] at E2
 rw[←E2.out] at HPO
 go_wp2_with fail
 refine(HS3.out _).mono ?_
 rintro e w2 ⟨rfl,hb⟩
 replace H:=hdz (H.out.here hb)
 clear x0 x1 x2 x3 x4 x5 x6 x7 x8 x9 x10 hb q0 q1
 obtain⟨x0,x1,x2,x3,x4,x5,x6,x7,x8,x9,x10⟩:=z11 H.out (i:=1) rfl
 have q0:=H.out.c 0 0 rfl rfl;have q1:=H.out.c 0 1 rfl rfl
 by_cases hz3:0<z3
 ·rw[decide_eq_true hz3] at E3
  rw[←E3.out] at HPO
  go_wp2_with fail
  first|go_ret|skip
  exact⟨Zad (HPO.out.trans (by simp)).symm,H.out.bl⟩
 rw[decide_eq_false hz3] at E3
 rw[←E3.out] at HPO
 go_wp2_with fail
 refine(HS4.out _).mono ?_
 rintro e w2 ⟨rfl,hb⟩
 replace H:=hdz (H.out.here hb)
 clear x0 x1 x2 x3 x4 x5 x6 x7 x8 x9 x10 hb q0 q1
 obtain⟨x0,x1,x2,x3,x4,x5,x6,x7,x8,x9,x10⟩:=z11 H.out (i:=1) rfl
 have q0:=H.out.c 0 0 rfl rfl;have q1:=H.out.c 0 1 rfl rfl
 by_cases hz4:z4<0
 ·rw[decide_eq_true hz4] at E4
  rw[←E4.out] at HPO
  go_wp2_with fail
  first|go_ret|skip
  exact⟨Zad (HPO.out.trans (by simp)).symm,H.out.bl⟩
 rw[decide_eq_false hz4] at E4
 rw[←E4.out] at HPO
 generalize m.keep=kp at*
 cases kp with
 |true=>
  cases ho:(m.other==m.inst) with
  |true=>
   rw[ho] at HPO
   go_wp2_with fail
   first|go_ret|skip
   exact⟨Zad (HPO.out.trans (by simp)).symm,H.out.bl⟩
  |false=>
   rw[ho] at HPO
   go_wp2_with fail
   first|go_ret|skip
   exact⟨Zad (HPO.out.trans (by simp)).symm,H.out.bl⟩
 |false=>
  cases hn:(m.share.n==one.n)<;>cases hd:(m.share.d==one.d)
  all_goals
   rw[hn,hd] at HPO
   go_wp2_with fail
   first|go_ret|skip
   exact⟨Zad (HPO.out.trans (by simp)).symm,H.out.bl⟩
end
section
open Go.RowKit Go.Shelf
attribute [local go_sem ↓] Go.wp_at_zero Go.wp_at_succ
def prtR(q:List UInt8)(f:Fr):List UInt8×Fr×Int:=
 if canB q=false∨¬f.ok then([],Fr.zero,1) else if val q<0∨f.rat≤0 then([],Fr.zero,2)
 else(txtL (flo (((val q:Int):Rat)*f.rat)),frOf (((val q:Int):Rat)*f.rat-((flo (((val q:Int):Rat)*f.rat):Int):Rat)),0)
def PrtPost(r:List UInt8×Fr×Int)(w:World)(e:Ending)(w':World):Prop:=e=.returned (.tuple #[S r.1,FrV r.2.1,.int .i64 r.2.2])∧Below w.heap.size w w'
theorem ZeF(q:List UInt8)(f:Fr)(w:World)(hp:Env w)(hq:q.length≤2000)(hf:f.Sz 2000):
 Calls Tryz.prog 17 #[S q,FrV f] w (PrtPost (prtR q f) w):=by
 have HPO:=hdz (show PrtPost (prtR q f) w=fun e w'=>e=.returned (.tuple #[S (prtR q f).1,FrV (prtR q f).2.1,.int .i64 (prtR q f).2.2])∧Below w.heap.size w w' from rfl)
 have HSC:=hdz (show prtR q f=if canB q=false∨¬f.ok then([],Fr.zero,1) else if val q<0∨f.rat≤0 then([],Fr.zero,2) else(txtL (flo (((val q:Int):Rat)*f.rat)),frOf (((val q:Int):Rat)*f.rat-((flo (((val q:Int):Rat)*f.rat):Int):Rat)),0) from rfl)
 generalize PrtPost (prtR q f) w=post at*
 generalize prtR q f=res at*
 have H:=hdz (show Kp w [(w.heap.size+1,#[.string ⟨#[]⟩,.string ⟨#[]⟩],26),(w.heap.size,#[.string ⟨f.n.toArray⟩,.string ⟨f.d.toArray⟩],26)] ((w.alloc (.cells #[.string ⟨f.n.toArray⟩,.string ⟨f.d.toArray⟩] 26)).alloc (.cells #[.string ⟨#[]⟩,.string ⟨#[]⟩] 26)) from((Kp.start hp).new w.heap.size rfl _ _).new (w.heap.size+1) (by simp) _ _)
 have HCQ:=hdz (fun W=>ZaK q W (by omega))
 have HCF:=hdz (fun W=>Zcw f W (hf.more (by omega)))
 have HK:=hdz (Zck f)
 have HSG:=hdz (fun W=>Zau q [] W (by omega) (by simp))
 rw[ZaD,Int.sub_zero] at HSG
 have HCM:=hdz (fun W=>Zat f ⟨[],[]⟩ W (hf.more (by omega)) ⟨by simp,by simp⟩)
 rw[show(⟨[],[]⟩:Fr).rat=0 from ZdM] at HCM
 have E1:=hdz (Zfx (val q));have E2:=hdz (Zfy f.rat 0)
 obtain⟨K,hK⟩:∃K:Nat,K=2000:=⟨_,rfl⟩
 rw[←hK] at hq hf
 have hiq:=Zc7 (Zai hq) (show 1≤K by omega)
 have hex:=ZcO hiq (Zd7 hf (by omega))
 have z1:=Zam hiq
 have z2:=Zam hex
 have hlo:=ZhI hex (by omega)
 have l1:=Zab hlo
 have z3:=Zam (Zc7 hlo (by omega))
 have HO1:=hdz (fun W=>ZbF q W (by omega))
 have HMU:=hdz (fun W=>ZdV (frOf ((val q:Int):Rat)) f W (z1.more (by omega)) (hf.more (by omega)))
 rw[Zac] at HMU
 have HFL:=hdz (fun W=>Zcx (frOf (((val q:Int):Rat)*f.rat)) W (z2.more (by omega)))
 rw[Zac] at HFL
 have HO2:=hdz (fun W=>ZbF (txtL (flo (((val q:Int):Rat)*f.rat))) W (by omega))
 rw[Zaa] at HO2
 have HSB:=hdz (fun W=>ZdW (frOf (((val q:Int):Rat)*f.rat)) (frOf ((flo (((val q:Int):Rat)*f.rat):Int):Rat)) W (z2.more (by omega)) (z3.more (by omega)))
 rw[Zac,Zac] at HSB
 clear hp hq hf hK hiq hex z1 z2 hlo l1 z3
 generalize frOf (((val q:Int):Rat)*f.rat-((flo (((val q:Int):Rat)*f.rat):Int):Rat))=fd at*
 generalize frOf ((flo (((val q:Int):Rat)*f.rat):Int):Rat)=ff at*
 generalize txtL (flo (((val q:Int):Rat)*f.rat))=tn at*
 generalize frOf (((val q:Int):Rat)*f.rat)=fa at*
 generalize frOf ((val q:Int):Rat)=fo at*
 generalize cmpR f.rat 0=z at*
 generalize sgnI (val q)=sg at*
 have HSC2:=hdz (show res=if canB q=false∨decide f.ok=false then([],Fr.zero,1) else if decide (val q<0)=true∨decide (f.rat≤0)=true then([],Fr.zero,2) else(tn,fd,0) by
  rw[HSC.out];simp only[decide_eq_true_eq,decide_eq_false_iff_not])
 clear HSC
 generalize decide (val q<0)=b1 at*
 generalize decide (f.rat≤0)=b2 at*
 generalize decide f.ok=o1 at*
 generalize chkF f=cf at*
 generalize canB q=cq at*
 have x0:=H.out.c 1 0 rfl rfl;have x1:=H.out.c 1 1 rfl rfl;have y0:=H.out.c 0 0 rfl rfl;have y1:=H.out.c 0 1 rfl rfl;have f0:=H.out.f 0 0 rfl;have f1:=H.out.f 0 1 rfl
 unfold CmpIPost FracPost StrPost FrV at*
 unfold S at*
 go_enter Tryz.func17,Tryz.ntmps17
 go_wp2_with fail
 generalize ((w.alloc (.cells #[.string ⟨f.n.toArray⟩,.string ⟨f.d.toArray⟩] 26)).alloc (.cells #[.string ⟨#[]⟩,.string ⟨#[]⟩] 26))=W at*
 refine(HCQ.out _).mono ?_
 rintro e w1 ⟨rfl,rfl⟩
 cases cq with
 |false=>
  rw[if_pos (.inl rfl)] at HSC2
  go_wp2_with fail
  refine bodyPost_ret (v:=.tuple #[.string ⟨#[]⟩,.agg #[.string ⟨#[]⟩,.string ⟨#[]⟩],.int .i64 1]) (by simp[results,Tryz.results17,go_sem,y0,y1]) rfl ?_
  rw[HPO.out,HSC2.out]
  exact⟨rfl,(H.out.set2 _ _).bl⟩
 |true=>
 go_wp2_with fail
 refine(HCF.out _).mono ?_
 rintro e w1 ⟨rfl,hb⟩
 replace H:=hdz (H.out.here hb)
 clear hb x0 x1 y0 y1 f0 f1
 have x0:=H.out.c 1 0 rfl rfl;have x1:=H.out.c 1 1 rfl rfl;have y0:=H.out.c 0 0 rfl rfl;have y1:=H.out.c 0 1 rfl rfl;have f0:=H.out.f 0 0 rfl;have f1:=H.out.f 0 1 rfl
 rcases HK.out with ⟨rfl,rfl⟩|⟨rfl,rfl⟩
 rotate_left
 ·rw[if_pos (.inr rfl)] at HSC2
  go_wp2_with fail
  refine bodyPost_ret (v:=.tuple #[.string ⟨#[]⟩,.agg #[.string ⟨#[]⟩,.string ⟨#[]⟩],.int .i64 1]) (by simp[results,Tryz.results17,go_sem,y0,y1]) rfl ?_
  rw[HPO.out,HSC2.out]
  exact⟨rfl,(H.out.set2 _ _).bl⟩
 rw[if_neg (by simp)] at HSC2
 go_wp2_with fail
 refine(HSG.out _).mono ?_
 rintro e w2 ⟨rfl,rfl⟩
 by_cases hs:sg<0
 ·rw[decide_eq_true hs] at E1
  rw[if_pos (.inl E1.out.symm)] at HSC2
  go_wp2_with fail
  refine bodyPost_ret (v:=.tuple #[.string ⟨#[]⟩,.agg #[.string ⟨#[]⟩,.string ⟨#[]⟩],.int .i64 2]) (by simp[results,Tryz.results17,go_sem,y0,y1]) rfl ?_
  rw[HPO.out,HSC2.out]
  exact⟨rfl,(H.out.set2 _ _).bl⟩
 rw[decide_eq_false hs] at E1
 go_wp2_with fail
 refine(HCM.out _).mono ?_
 rintro e w2 ⟨rfl,hb⟩
 replace H:=hdz (H.out.here hb)
 clear hb x0 x1 y0 y1 f0 f1
 have x0:=H.out.c 1 0 rfl rfl;have x1:=H.out.c 1 1 rfl rfl;have y0:=H.out.c 0 0 rfl rfl;have y1:=H.out.c 0 1 rfl rfl;have f0:=H.out.f 0 0 rfl;have f1:=H.out.f 0 1 rfl
 by_cases hz:z≤0
 ·rw[decide_eq_true hz] at E2
  rw[if_pos (.inr E2.out.symm)] at HSC2
  go_wp2_with fail
  refine bodyPost_ret (v:=.tuple #[.string ⟨#[]⟩,.agg #[.string ⟨#[]⟩,.string ⟨#[]⟩],.int .i64 2]) (by simp[results,Tryz.results17,go_sem,y0,y1]) rfl ?_
  rw[HPO.out,HSC2.out]
  exact⟨rfl,(H.out.set2 _ _).bl⟩
 rw[decide_eq_false hz] at E2
 rw[if_neg (by rw[←E1.out,←E2.out];simp)] at HSC2
 clear x0 x1 y0 y1 f0 f1 HCQ HCF HSG HCM HK E1 E2
 go_upto_region 5 with (fail)
 go_cut [7] (fun u wc=>∃p:Nat,u=.pointer (some ⟨p,0,none⟩)∧Hid (Kp w [(p,#[.string ⟨fa.n.toArray⟩,.string ⟨fa.d.toArray⟩],26),(w.heap.size+1,#[.string ⟨#[]⟩,.string ⟨#[]⟩],26),(w.heap.size,#[.string ⟨f.n.toArray⟩,.string ⟨f.d.toArray⟩],26)] wc))
 case first=>
  have hS:=hdz (fun X (h:Bz w2 X)=>(show X.cell? ⟨w.heap.size,0,none⟩=some (.string ⟨f.n.toArray⟩)∧X.cell? ⟨w.heap.size,1,none⟩=some (.string ⟨f.d.toArray⟩) from⟨(H.out.here h).c 1 0 rfl rfl,(H.out.here h).c 1 1 rfl rfl⟩))
  go_region_held3 (fun w'=>w'.cell? ⟨w.heap.size,0,none⟩=some (.string ⟨f.n.toArray⟩)∧w'.cell? ⟨w.heap.size,1,none⟩=some (.string ⟨f.d.toArray⟩))
   (first|(exact hS.out _ (by repeat' (first|assumption|exact Bz.refl _|refine Bz.drew ?_|refine Bz.alloc ?_ _|refine Bz.set ?_ (by first|assumption|exact Nat.le_refl _|exact Bz.size (by assumption)) _ _)))|go_keep)
   (first
     |(go_at_call 49;refine(HO1.out _).mono ?_;rintro e v1 ⟨rfl,hb1⟩;have hz1:Bz w2 v1:=Bz.call (by repeat' (first|assumption|exact Bz.refl _|refine Bz.drew ?_|refine Bz.alloc ?_ _|refine Bz.set ?_ (by first|assumption|exact Nat.le_refl _|exact Bz.size (by assumption)) _ _)) hb1
       first|(have q1:BlkB v1 w2.heap.size #[.string ⟨#[]⟩,.string ⟨#[]⟩] 26:=BlkB.here (w:=(w2.alloc (.cells #[.string ⟨#[]⟩,.string ⟨#[]⟩] 26)).drew) (heap_alloc_new w2 _) hb1)|skip)
     |(go_at_call 56;refine(HMU.out _).mono ?_;rintro e v2 ⟨rfl,hb2⟩;have hz2:Bz w2 v2:=Bz.call (by repeat' (first|assumption|exact Bz.refl _|refine Bz.drew ?_|refine Bz.alloc ?_ _|refine Bz.set ?_ (by first|assumption|exact Nat.le_refl _|exact Bz.size (by assumption)) _ _)) hb2
       first
        |(have q2:=q1.here hb2;have n0:=q2.cell 0 rfl;have n1:=q2.cell 1 rfl;have g0:=q2.frozen 0;have g1:=q2.frozen 1)
        |(have q2:BlkB v2 v1.heap.size #[.string ⟨#[]⟩,.string ⟨#[]⟩] 26:=BlkB.here (w:=v1.alloc (.cells #[.string ⟨#[]⟩,.string ⟨#[]⟩] 26)) (heap_alloc_new v1 _) hb2;have n0:=q2.cell 0 rfl;have n1:=q2.cell 1 rfl;have g0:=q2.frozen 0;have g1:=q2.frozen 1)
        |skip))
  all_goals
   go_wp2_with fail
   go_meet
   first
    |exact⟨_,rfl,(H.out.join hz2 q2 (by first|exact Nat.le_refl _|exact hz1.size)).set2 _ _⟩
    |exact⟨_,rfl,(H.out.here hz2).new _ rfl _ _⟩
    |exact⟨_,rfl,((H.out.here hz2).new _ rfl _ _).set2 _ _⟩
 case rest=>
 clear H HO1 HMU
 obtain⟨p,rfl,H⟩:=hcut
 obtain⟨w3,rfl⟩:∃W,W=wc:=⟨_,rfl⟩
 have x0:=H.out.c 0 0 rfl rfl;have x1:=H.out.c 0 1 rfl rfl
 go_wp2_with fail
 refine(HFL.out _).mono ?_
 rintro e w4 ⟨rfl,hb⟩
 replace H:=hdz (H.out.here hb)
 clear hb x0 x1 HFL
 go_upto_region 7 with (fail)
 have hS:=hdz (fun X (h:Bz w4 X)=>(show X.cell? ⟨p,0,none⟩=some (.string ⟨fa.n.toArray⟩)∧X.cell? ⟨p,1,none⟩=some (.string ⟨fa.d.toArray⟩) from⟨(H.out.here h).c 0 0 rfl rfl,(H.out.here h).c 0 1 rfl rfl⟩))
 have hS2:=hdz (fun X (h:Bz w4 X) u v=>(show((X.setCell ⟨w.heap.size+1,0,none⟩ u).setCell ⟨w.heap.size+1,1,none⟩ v).cell? ⟨p,0,none⟩=some (.string ⟨fa.n.toArray⟩)∧((X.setCell ⟨w.heap.size+1,0,none⟩ u).setCell ⟨w.heap.size+1,1,none⟩ v).cell? ⟨p,1,none⟩=some (.string ⟨fa.d.toArray⟩) from⟨(((H.out.here h).set 1 0 rfl u).set 1 1 rfl v).c 0 0 rfl rfl,(((H.out.here h).set 1 0 rfl u).set 1 1 rfl v).c 0 1 rfl rfl⟩))
 go_region_held3 (fun w'=>w'.cell? ⟨p,0,none⟩=some (.string ⟨fa.n.toArray⟩)∧w'.cell? ⟨p,1,none⟩=some (.string ⟨fa.d.toArray⟩))
  (first|(exact hS2.out _ (by assumption) _ _)|(exact hS.out _ (by repeat' (first|assumption|exact Bz.refl _|refine Bz.drew ?_|refine Bz.alloc ?_ _|refine Bz.set ?_ (by first|assumption|exact Nat.le_refl _|exact Bz.size (by assumption)) _ _)))|go_keep)
  (first
    |(go_at_call 49;refine(HO2.out _).mono ?_;rintro e v1 ⟨rfl,hb1⟩;have hz1:Bz w4 v1:=Bz.call (by repeat' (first|assumption|exact Bz.refl _|refine Bz.drew ?_|refine Bz.alloc ?_ _|refine Bz.set ?_ (by first|assumption|exact Nat.le_refl _|exact Bz.size (by assumption)) _ _)) hb1)
    |(go_at_call 64;refine(HSB.out _).mono ?_;rintro e v2 ⟨rfl,hb2⟩;have hz2:Bz w4 v2:=Bz.call (by repeat' (first|assumption|exact Bz.refl _|refine Bz.drew ?_|refine Bz.alloc ?_ _|refine Bz.set ?_ (by first|assumption|exact Nat.le_refl _|exact Bz.size (by assumption)) _ _)) hb2;have n0:=(H.out.here hz2).c 1 0 rfl rfl;have n1:=(H.out.here hz2).c 1 1 rfl rfl;have g0:=(H.out.here hz2).f 1 0 rfl;have g1:=(H.out.here hz2).f 1 1 rfl))
 all_goals
  go_wp2_with fail
  refine bodyPost_ret (v:=.tuple #[.string ⟨tn.toArray⟩,.agg #[.string ⟨fd.n.toArray⟩,.string ⟨fd.d.toArray⟩],.int .i64 0]) (by simp[results,Tryz.results17,go_sem,n0,n1]) rfl ?_
  rw[HPO.out,HSC2.out]
  exact⟨rfl,(((H.out.here hz2).set 1 0 rfl _).set 1 1 rfl _).bl⟩
end
end Go.Proofs.YtpnncoinlopndaaGreatDoor
