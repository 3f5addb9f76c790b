/- Mq5, Lw1, Lp5, Lp6, Lp7, Lp8, Lp9, Mq7, Lw2. -/
import Derived.Test.YtpnncoinlopndaaGreatDoorQGSm12
set_option maxRecDepth 20000
set_option maxHeartbeats 4000000
namespace Go.Proofs.YtpnncoinlopndaaGreatDoor
open Go.Lib renaming hid→hdz
section
open Go.RowKit Go.Shelf
attribute [local go_sem ↓] Go.wp_at_zero Go.wp_at_succ
def MpV(m:Mp):Value:=.agg (mpA m).toArray
structure Mp.Sz (L:Nat) (m:Mp):Prop where
 cause:m.cause.length≤L
 inst:m.inst.length≤L
 other:m.other.length≤L
 ratio:m.ratio.Sz L
 share:m.share.Sz L
 price:m.price.Sz L
 d1: -9223372036854775808≤m.day
 d2:m.day≤9223372036854775807
theorem Zfy(x y:Rat):decide (cmpR x y≤0)=decide (x≤y):=by
 unfold cmpR
 rw[Bool.eq_iff_iff,decide_eq_true_eq,decide_eq_true_eq]
 by_cases h1:x<y
 ·simp only[if_pos h1];exact⟨fun _=>Rat.le_of_lt h1,fun _=>by decide⟩
 ·rw[if_neg h1]
  by_cases h2:y<x
  ·rw[if_pos h2];exact⟨fun h=>absurd h (by decide),fun h=>absurd h2 (Rat.not_lt.2 h)⟩
  ·rw[if_neg h2];exact⟨fun _=>Rat.not_lt.1 h2,fun _=>by decide⟩
theorem Zer(x y:Rat):decide (cmpR x y<0)=decide (x<y):=by
 unfold cmpR
 by_cases h:x<y
 ·simp[h]
 ·rw[if_neg h]
  simp only[h,decide_false,decide_eq_false_iff_not]
  split<;>decide
theorem ZgY(x y:Rat):decide (0<cmpR x y)=decide (y<x):=by
 unfold cmpR
 by_cases h:x<y
 ·rw[if_pos h]
  have:¬y<x:=Rat.not_lt.2 (Rat.le_of_lt h)
  simp[this]
 ·rw[if_neg h]
  by_cases h2:y<x<;>simp[h2]
theorem Zc9(x y:Rat):cmpR x y= -1∨cmpR x y=0∨cmpR x y=1:=by
 unfold cmpR
 split
 ·exact .inl rfl
 ·split
  ·exact .inr (.inr rfl)
  ·exact .inr (.inl rfl)
theorem Znr{f:Fr}(h:f.ok):(f=frOf 1)↔f.rat=1:=⟨fun e=>by rw[e,Zac],fun e=>by rw[h,e]⟩
theorem ZhJ(m:Mp):mpC m=if(!(nameB m.cause&&nameB m.inst&&nameB m.other))=true then 23 else if(!dayB m.day)=true then 13 else if(!(decide m.ratio.ok&&decide m.share.ok&&decide m.price.ok))=true then 1
 else if(decide (m.ratio.rat≤0)||decide (m.share.rat<0)||decide (1<m.share.rat)||decide (m.price.rat<0))=true then 2 else if(m.keep&&(m.other==m.inst))=true then 18 else if(!m.keep&& !(m.share.n==(frOf 1).n&&m.share.d==(frOf 1).d))=true then 9 else 0:=by
 unfold mpC
 by_cases hA:(!(nameB m.cause&&nameB m.inst&&nameB m.other))=true
 ·rw[if_pos hA,if_pos hA]
 rw[if_neg hA,if_neg hA]
 by_cases hB:(!dayB m.day)=true
 ·rw[if_pos hB,if_pos hB]
 rw[if_neg hB,if_neg hB]
 by_cases h1:m.ratio.ok∧m.share.ok∧m.price.ok
 ·rw[if_neg (not_not_intro h1),if_neg (show ¬(!(decide m.ratio.ok&&decide m.share.ok&&decide m.price.ok))=true by simp[h1.1,h1.2.1,h1.2.2])]
  by_cases h2:m.ratio.rat≤0∨m.share.rat<0∨1<m.share.rat∨m.price.rat<0
  ·rw[if_pos h2,if_pos (show(decide (m.ratio.rat≤0)||decide (m.share.rat<0)||decide (1<m.share.rat)||decide (m.price.rat<0))=true by simp only[Bool.or_eq_true,decide_eq_true_eq,or_assoc];exact h2)]
  ·rw[if_neg h2,if_neg (show ¬(decide (m.ratio.rat≤0)||decide (m.share.rat<0)||decide (1<m.share.rat)||decide (m.price.rat<0))=true by simp only[Bool.or_eq_true,decide_eq_true_eq,or_assoc];exact h2)]
   by_cases h3:m.keep=true∧m.other=m.inst
   ·rw[if_pos h3,if_pos (show(m.keep&&(m.other==m.inst))=true by simp[h3.1,h3.2])]
   ·rw[if_neg h3,if_neg (show ¬(m.keep&&(m.other==m.inst))=true by simpa using h3)]
    have he:(m.share.n==(frOf 1).n&&m.share.d==(frOf 1).d)=decide (m.share.rat=1):=by
     rw[Bool.eq_iff_iff,decide_eq_true_eq,←Znr h1.2.1]
     simp only[Bool.and_eq_true,beq_iff_eq]
     exact⟨fun h=>Fr.ext_ h.1 h.2,fun h=>by rw[h];exact⟨rfl,rfl⟩⟩
    rw[he]
    by_cases h4:m.keep=false∧m.share.rat≠1
    ·rw[if_pos h4,if_pos (by simp[h4.1,h4.2])]
    ·rw[if_neg h4,if_neg (by simpa using h4)]
 ·rw[if_pos h1,if_pos (show(!(decide m.ratio.ok&&decide m.share.ok&&decide m.price.ok))=true by
   by_cases a1:m.ratio.ok<;>by_cases a2:m.share.ok<;>by_cases a3:m.price.ok<;>simp_all)]
theorem Zit(m:Mp)(hm:m.Sz 5000):Gives 10 #[MpV m] (.int .i64 (mpC m)):=by
 intro w hp
 have HPO:=hdz (ZhJ m)
 generalize mpC m=res at*
 have H:=hdz ((Kp.start hp).new w.heap.size rfl #[.string ⟨m.cause.toArray⟩,.int .i64 m.day,.string ⟨m.inst.toArray⟩,.string ⟨m.other.toArray⟩,.string ⟨m.ratio.n.toArray⟩,.string ⟨m.ratio.d.toArray⟩,.string ⟨m.share.n.toArray⟩,.string ⟨m.share.d.toArray⟩,.string ⟨m.price.n.toArray⟩,.string ⟨m.price.d.toArray⟩,.bool m.keep] 28)
 have HWD:=hdz (Zeq m.day hm.d1 hm.d2)
 have HN1:=hdz (Zbu m.cause);have HN2:=hdz (Zbu m.inst);have HN3:=hdz (Zbu m.other)
 have HC1:=hdz (fun W hp=>ZbI m.ratio W hp (hm.ratio.more (by omega)));have HC2:=hdz (fun W hp=>ZbI m.share W hp (hm.share.more (by omega)));have HC3:=hdz (fun W hp=>ZbI m.price W hp (hm.price.more (by omega)))
 rw[show chkF m.ratio=if decide m.ratio.ok=true then 0 else 1 by unfold chkF;simp] at HC1
 rw[show chkF m.share=if decide m.share.ok=true then 0 else 1 by unfold chkF;simp] at HC2
 rw[show chkF m.price=if decide m.price.ok=true then 0 else 1 by unfold chkF;simp] at HC3
 have HS1:=hdz (Zbn m.ratio (hm.ratio.more (by omega)));have HS2:=hdz (Zbn m.share (hm.share.more (by omega)));have HS3:=hdz (Zbn m.price (hm.price.more (by omega)))
 have HO1:=hdz ZkZ
 have hosz:(frOf 1).Sz 20000:=by rw[show(1:Rat)=((1:Int):Rat) from rfl,ZbZ];exact⟨by decide+kernel,by simp⟩
 have HCM:=hdz (fun W hp=>ZdB m.share (frOf 1) W hp (hm.share.more (by omega)) hosz)
 rw[Zac] at HCM
 have e1:=Zfy m.ratio.rat 0;have e2:=Zer m.share.rat 0;have e3:=ZgY m.share.rat 1;have e4:=Zer m.price.rat 0
 have E1:=hdz e1;have E2:=hdz e2;have E3:=hdz e3;have E4:=hdz e4
 clear e1 e2 e3 e4 hosz hm hp
 have v1:=Zc9 m.ratio.rat 0;have v2:=Zc9 m.share.rat 0;have v3:=Zc9 m.share.rat 1;have v4:=Zc9 m.price.rat 0
 generalize cmpR m.ratio.rat 0=z1 at *; generalize cmpR m.share.rat 0=z2 at *; generalize cmpR m.share.rat 1=z3 at *; generalize cmpR m.price.rat 0=z4 at*
 have V1:=hdz v1;have V2:=hdz v2;have V3:=hdz v3;have V4:=hdz v4
 clear v1 v2 v3 v4
 generalize decide (m.ratio.rat≤0)=r1 at *; generalize decide (m.share.rat<0)=r2 at *; generalize decide (1<m.share.rat)=r3 at *; generalize decide (m.price.rat<0)=r4 at*
 generalize decide m.ratio.ok=o1 at *; generalize decide m.share.ok=o2 at *; generalize decide m.price.ok=o3 at*
 generalize hc1:(if o1=true then(0:Int) else 1)=c1 at *; generalize hc2:(if o2=true then(0:Int) else 1)=c2 at *; generalize hc3:(if o3=true then(0:Int) else 1)=c3 at*
 generalize hcd:(if dayB m.day=true then(0:Int) else 13)=cd at*
 have KD:=hdz hcd
 clear hcd
 have K1:=hdz hc1;have K2:=hdz hc2;have K3:=hdz hc3
 clear hc1 hc2 hc3
 generalize frOf 1=one at*
 generalize nameB m.cause=n1 at *; generalize nameB m.inst=n2 at *; generalize nameB m.other=n3 at *; generalize dayB m.day=dd at*
 generalize wkd m.day=wk at*
 have eA:(mpA m).toArray=#[.string ⟨m.cause.toArray⟩,.int .i64 m.day,.string ⟨m.inst.toArray⟩,.string ⟨m.other.toArray⟩,.string ⟨m.ratio.n.toArray⟩,.string ⟨m.ratio.d.toArray⟩,.string ⟨m.share.n.toArray⟩,.string ⟨m.share.d.toArray⟩,.string ⟨m.price.n.toArray⟩,.string ⟨m.price.d.toArray⟩,.bool m.keep]:=rfl
 unfold MpV
 rw[eA]
 clear eA
 unfold FrV at*
 unfold S at*
 have x0:=H.out.c 0 0 rfl rfl;have x1:=H.out.c 0 1 rfl rfl;have x2:=H.out.c 0 2 rfl rfl;have x3:=H.out.c 0 3 rfl rfl;have x4:=H.out.c 0 4 rfl rfl;have x5:=H.out.c 0 5 rfl rfl;have x6:=H.out.c 0 6 rfl rfl;have x7:=H.out.c 0 7 rfl rfl;have x8:=H.out.c 0 8 rfl rfl;have x9:=H.out.c 0 9 rfl rfl;have x10:=H.out.c 0 10 rfl rfl
 go_enter Tryz.func10,Tryz.ntmps10
 go_wp2_with fail
 generalize w.alloc _=W at*
 refine(HWD.out _ H.out.pw).mono ?_
 rintro e w1 ⟨rfl,hb⟩
 replace H:=hdz (H.out.here hb)
 clear hb;clear x0 x1 x2 x3 x4 x5 x6 x7 x8 x9 x10
 have x0:=H.out.c 0 0 rfl rfl;have x1:=H.out.c 0 1 rfl rfl;have x2:=H.out.c 0 2 rfl rfl;have x3:=H.out.c 0 3 rfl rfl;have x4:=H.out.c 0 4 rfl rfl;have x5:=H.out.c 0 5 rfl rfl;have x6:=H.out.c 0 6 rfl rfl;have x7:=H.out.c 0 7 rfl rfl;have x8:=H.out.c 0 8 rfl rfl;have x9:=H.out.c 0 9 rfl rfl;have x10:=H.out.c 0 10 rfl rfl
 go_wp2_with fail
 refine(HN1.out _ H.out.pw).mono ?_
 rintro e w1 ⟨rfl,hb⟩
 replace H:=hdz (H.out.here hb)
 clear hb;clear x0 x1 x2 x3 x4 x5 x6 x7 x8 x9 x10
 have x0:=H.out.c 0 0 rfl rfl;have x1:=H.out.c 0 1 rfl rfl;have x2:=H.out.c 0 2 rfl rfl;have x3:=H.out.c 0 3 rfl rfl;have x4:=H.out.c 0 4 rfl rfl;have x5:=H.out.c 0 5 rfl rfl;have x6:=H.out.c 0 6 rfl rfl;have x7:=H.out.c 0 7 rfl rfl;have x8:=H.out.c 0 8 rfl rfl;have x9:=H.out.c 0 9 rfl rfl;have x10:=H.out.c 0 10 rfl rfl
 cases n1 with
 |false=>
  go_wp2_with fail
  first|go_ret|skip
  rw[HPO.out]
  exact⟨Zad (by simp),H.out.bl⟩
 |true=>
  go_wp2_with fail
  refine(HN2.out _ H.out.pw).mono ?_
  rintro e w1 ⟨rfl,hb⟩
  replace H:=hdz (H.out.here hb)
  clear hb;clear x0 x1 x2 x3 x4 x5 x6 x7 x8 x9 x10
  have x0:=H.out.c 0 0 rfl rfl;have x1:=H.out.c 0 1 rfl rfl;have x2:=H.out.c 0 2 rfl rfl;have x3:=H.out.c 0 3 rfl rfl;have x4:=H.out.c 0 4 rfl rfl;have x5:=H.out.c 0 5 rfl rfl;have x6:=H.out.c 0 6 rfl rfl;have x7:=H.out.c 0 7 rfl rfl;have x8:=H.out.c 0 8 rfl rfl;have x9:=H.out.c 0 9 rfl rfl;have x10:=H.out.c 0 10 rfl rfl
  cases n2 with
  |false=>
   go_wp2_with fail
   first|go_ret|skip
   rw[HPO.out]
   exact⟨Zad (by simp),H.out.bl⟩
  |true=>
   go_wp2_with fail
   refine(HN3.out _ H.out.pw).mono ?_
   rintro e w1 ⟨rfl,hb⟩
   replace H:=hdz (H.out.here hb)
   clear hb;clear x0 x1 x2 x3 x4 x5 x6 x7 x8 x9 x10
   have x0:=H.out.c 0 0 rfl rfl;have x1:=H.out.c 0 1 rfl rfl;have x2:=H.out.c 0 2 rfl rfl;have x3:=H.out.c 0 3 rfl rfl;have x4:=H.out.c 0 4 rfl rfl;have x5:=H.out.c 0 5 rfl rfl;have x6:=H.out.c 0 6 rfl rfl;have x7:=H.out.c 0 7 rfl rfl;have x8:=H.out.c 0 8 rfl rfl;have x9:=H.out.c 0 9 rfl rfl;have x10:=H.out.c 0 10 rfl rfl
   cases n3 with
   |false=>
    go_wp2_with fail
    first|go_ret|skip
    rw[HPO.out]
    exact⟨Zad (by simp),H.out.bl⟩
   |true=>
    cases dd with
    |false=>
     obtain rfl:cd=13:=by rw[←KD.out];rfl
     go_wp2_with fail
     first|go_ret|skip
     rw[HPO.out]
     exact⟨Zad (by simp),H.out.bl⟩
    |true=>
     obtain rfl:cd=0:=by rw[←KD.out];rfl
     go_wp2_with fail
     refine(HC1.out _ H.out.po).mono ?_
     rintro e w1 ⟨rfl,hb⟩
     replace H:=hdz (H.out.here hb)
     clear hb;clear x0 x1 x2 x3 x4 x5 x6 x7 x8 x9 x10
     have x0:=H.out.c 0 0 rfl rfl;have x1:=H.out.c 0 1 rfl rfl;have x2:=H.out.c 0 2 rfl rfl;have x3:=H.out.c 0 3 rfl rfl;have x4:=H.out.c 0 4 rfl rfl;have x5:=H.out.c 0 5 rfl rfl;have x6:=H.out.c 0 6 rfl rfl;have x7:=H.out.c 0 7 rfl rfl;have x8:=H.out.c 0 8 rfl rfl;have x9:=H.out.c 0 9 rfl rfl;have x10:=H.out.c 0 10 rfl rfl
     cases o1 with
     |false=>
      obtain rfl:c1=1:=by rw[←K1.out];rfl
      go_wp2_with fail
      first|go_ret|skip
      rw[HPO.out]
      exact⟨Zad (by simp),H.out.bl⟩
     |true=>
      obtain rfl:c1=0:=by rw[←K1.out];rfl
      go_wp2_with fail
      refine(HC2.out _ H.out.po).mono ?_
      rintro e w1 ⟨rfl,hb⟩
      replace H:=hdz (H.out.here hb)
      clear hb;clear x0 x1 x2 x3 x4 x5 x6 x7 x8 x9 x10
      have x0:=H.out.c 0 0 rfl rfl;have x1:=H.out.c 0 1 rfl rfl;have x2:=H.out.c 0 2 rfl rfl;have x3:=H.out.c 0 3 rfl rfl;have x4:=H.out.c 0 4 rfl rfl;have x5:=H.out.c 0 5 rfl rfl;have x6:=H.out.c 0 6 rfl rfl;have x7:=H.out.c 0 7 rfl rfl;have x8:=H.out.c 0 8 rfl rfl;have x9:=H.out.c 0 9 rfl rfl;have x10:=H.out.c 0 10 rfl rfl
      cases o2 with
      |false=>
       obtain rfl:c2=1:=by rw[←K2.out];rfl
       go_wp2_with fail
       first|go_ret|skip
       rw[HPO.out]
       exact⟨Zad (by simp),H.out.bl⟩
      |true=>
       obtain rfl:c2=0:=by rw[←K2.out];rfl
       go_wp2_with fail
       refine(HC3.out _ H.out.po).mono ?_
       rintro e w1 ⟨rfl,hb⟩
       replace H:=hdz (H.out.here hb)
       clear hb;clear x0 x1 x2 x3 x4 x5 x6 x7 x8 x9 x10
       have x0:=H.out.c 0 0 rfl rfl;have x1:=H.out.c 0 1 rfl rfl;have x2:=H.out.c 0 2 rfl rfl;have x3:=H.out.c 0 3 rfl rfl;have x4:=H.out.c 0 4 rfl rfl;have x5:=H.out.c 0 5 rfl rfl;have x6:=H.out.c 0 6 rfl rfl;have x7:=H.out.c 0 7 rfl rfl;have x8:=H.out.c 0 8 rfl rfl;have x9:=H.out.c 0 9 rfl rfl;have x10:=H.out.c 0 10 rfl rfl
       cases o3 with
       |false=>
        obtain rfl:c3=1:=by rw[←K3.out];rfl
        go_wp2_with fail
        first|go_ret|skip
        rw[HPO.out]
        exact⟨Zad (by simp),H.out.bl⟩
       |true=>
        obtain rfl:c3=0:=by rw[←K3.out];rfl
        go_upto_region 8 with (fail)
        go_cut [48] (fun s wc=>s=.bool (r1||r2||r3||r4)∧Hid (Kp w [(w.heap.size,#[.string ⟨m.cause.toArray⟩,.int .i64 m.day,.string ⟨m.inst.toArray⟩,.string ⟨m.other.toArray⟩,.string ⟨m.ratio.n.toArray⟩,.string ⟨m.ratio.d.toArray⟩,.string ⟨m.share.n.toArray⟩,.string ⟨m.share.d.toArray⟩,.string ⟨m.price.n.toArray⟩,.string ⟨m.price.d.toArray⟩,.bool m.keep],28)] wc))
        case first=>
         clear x0 x1 x2 x3 x10 HPO HWD HN1 HN2 HN3 HC1 HC2 HC3 K1 K2 K3 KD
         rcases V1.out with rfl|rfl|rfl
         all_goals first
         |have e:r1=true:=by rw[←E1.out];rfl
          subst e
         |have e:r1=false:=by rw[←E1.out];rfl
          subst e
          rcases V2.out with rfl|rfl|rfl
          all_goals first
          |have e:r2=true:=by rw[←E2.out];rfl
           subst e
          |have e:r2=false:=by rw[←E2.out];rfl
           subst e
           rcases V3.out with rfl|rfl|rfl
           all_goals first
           |have e:r3=true:=by rw[←E3.out];rfl
            subst e
           |have e:r3=false:=by rw[←E3.out];rfl
            subst e
            rcases V4.out with rfl|rfl|rfl
            all_goals first
            |have e:r4=true:=by rw[←E4.out];rfl
             subst e
            |have e:r4=false:=by rw[←E4.out];rfl
             subst e
             first
             |(go_region_held3 (fun w'=>w'.cell? ⟨w.heap.size,4,none⟩=some (.string ⟨m.ratio.n.toArray⟩)∧w'.cell? ⟨w.heap.size,5,none⟩=some (.string ⟨m.ratio.d.toArray⟩)∧w'.cell? ⟨w.heap.size,6,none⟩=some (.string ⟨m.share.n.toArray⟩)∧w'.cell? ⟨w.heap.size,7,none⟩=some (.string ⟨m.share.d.toArray⟩)∧w'.cell? ⟨w.heap.size,8,none⟩=some (.string ⟨m.price.n.toArray⟩)∧w'.cell? ⟨w.heap.size,9,none⟩=some (.string ⟨m.price.d.toArray⟩)) (first|exact ka|exact kb|exact kc|exact kd|exact ke|go_keep)
              (first
                |(go_at_call_of 44 (Value.agg #[.string ⟨m.ratio.n.toArray⟩,.string ⟨m.ratio.d.toArray⟩]);refine(HS1.out _ H.out.drew.pw).mono ?_;rintro e w2 ⟨rfl,hb2⟩;have ha:Below w1.heap.size w1 w2:=(Below.refl _ w1).drew.trans hb2;have ka:=And.intro ((H.out.here ha).c 0 4 rfl rfl) (And.intro ((H.out.here ha).c 0 5 rfl rfl) (And.intro ((H.out.here ha).c 0 6 rfl rfl) (And.intro ((H.out.here ha).c 0 7 rfl rfl) (And.intro ((H.out.here ha).c 0 8 rfl rfl) ((H.out.here ha).c 0 9 rfl rfl))))))
                |(go_at_call_of 44 (Value.agg #[.string ⟨m.share.n.toArray⟩,.string ⟨m.share.d.toArray⟩]);refine(HS2.out _ (H.out.here ha).pw).mono ?_;rintro e w3 ⟨rfl,hb3⟩;have hbb:Below w1.heap.size w1 w3:=ha.trans (hb3.mono ha.size);have kb:=And.intro ((H.out.here hbb).c 0 4 rfl rfl) (And.intro ((H.out.here hbb).c 0 5 rfl rfl) (And.intro ((H.out.here hbb).c 0 6 rfl rfl) (And.intro ((H.out.here hbb).c 0 7 rfl rfl) (And.intro ((H.out.here hbb).c 0 8 rfl rfl) ((H.out.here hbb).c 0 9 rfl rfl))))))
                |(go_at_call 46;refine(HO1.out _ (H.out.here hbb).pw).mono ?_;rintro e w4 ⟨rfl,hb4⟩;have hcc:Below w1.heap.size w1 w4:=hbb.trans (hb4.mono hbb.size);have kc:=And.intro ((H.out.here hcc).c 0 4 rfl rfl) (And.intro ((H.out.here hcc).c 0 5 rfl rfl) (And.intro ((H.out.here hcc).c 0 6 rfl rfl) (And.intro ((H.out.here hcc).c 0 7 rfl rfl) (And.intro ((H.out.here hcc).c 0 8 rfl rfl) ((H.out.here hcc).c 0 9 rfl rfl))))))
                |(go_at_call 45;refine(HCM.out _ (H.out.here hcc).po).mono ?_;rintro e w5 ⟨rfl,hb5⟩;have hdd:Below w1.heap.size w1 w5:=hcc.trans (hb5.mono hcc.size);have kd:=And.intro ((H.out.here hdd).c 0 4 rfl rfl) (And.intro ((H.out.here hdd).c 0 5 rfl rfl) (And.intro ((H.out.here hdd).c 0 6 rfl rfl) (And.intro ((H.out.here hdd).c 0 7 rfl rfl) (And.intro ((H.out.here hdd).c 0 8 rfl rfl) ((H.out.here hdd).c 0 9 rfl rfl))))))
                |(go_at_call_of 44 (Value.agg #[.string ⟨m.price.n.toArray⟩,.string ⟨m.price.d.toArray⟩]);refine(HS3.out _ (H.out.here hdd).pw).mono ?_;rintro e w6 ⟨rfl,hb6⟩;have hee:Below w1.heap.size w1 w6:=hdd.trans (hb6.mono hdd.size);have ke:=And.intro ((H.out.here hee).c 0 4 rfl rfl) (And.intro ((H.out.here hee).c 0 5 rfl rfl) (And.intro ((H.out.here hee).c 0 6 rfl rfl) (And.intro ((H.out.here hee).c 0 7 rfl rfl) (And.intro ((H.out.here hee).c 0 8 rfl rfl) ((H.out.here hee).c 0 9 rfl rfl))))))
              ))
             |fail
             all_goals
              go_wp2_with fail
              go_meet
              first|exact⟨by simp,H.out.here hee⟩
         all_goals
          first
          |(go_region_with
           (first
             |(go_at_call_of 44 (Value.agg #[.string ⟨m.ratio.n.toArray⟩,.string ⟨m.ratio.d.toArray⟩]);refine(HS1.out _ H.out.drew.pw).mono ?_;rintro e w2 ⟨rfl,hb2⟩;have ha:Below w1.heap.size w1 w2:=(Below.refl _ w1).drew.trans hb2;have ya4:=(H.out.here ha).c 0 4 rfl rfl;have ya5:=(H.out.here ha).c 0 5 rfl rfl;have ya6:=(H.out.here ha).c 0 6 rfl rfl;have ya7:=(H.out.here ha).c 0 7 rfl rfl;have ya8:=(H.out.here ha).c 0 8 rfl rfl;have ya9:=(H.out.here ha).c 0 9 rfl rfl)
             |(go_at_call_of 44 (Value.agg #[.string ⟨m.share.n.toArray⟩,.string ⟨m.share.d.toArray⟩]);refine(HS2.out _ (H.out.here ha).pw).mono ?_;rintro e w3 ⟨rfl,hb3⟩;have hbb:Below w1.heap.size w1 w3:=ha.trans (hb3.mono ha.size);have yb4:=(H.out.here hbb).c 0 4 rfl rfl;have yb5:=(H.out.here hbb).c 0 5 rfl rfl;have yb6:=(H.out.here hbb).c 0 6 rfl rfl;have yb7:=(H.out.here hbb).c 0 7 rfl rfl;have yb8:=(H.out.here hbb).c 0 8 rfl rfl;have yb9:=(H.out.here hbb).c 0 9 rfl rfl)
             |(go_at_call 46;refine(HO1.out _ (H.out.here hbb).pw).mono ?_;rintro e w4 ⟨rfl,hb4⟩;have hcc:Below w1.heap.size w1 w4:=hbb.trans (hb4.mono hbb.size);have yc4:=(H.out.here hcc).c 0 4 rfl rfl;have yc5:=(H.out.here hcc).c 0 5 rfl rfl;have yc6:=(H.out.here hcc).c 0 6 rfl rfl;have yc7:=(H.out.here hcc).c 0 7 rfl rfl;have yc8:=(H.out.here hcc).c 0 8 rfl rfl;have yc9:=(H.out.here hcc).c 0 9 rfl rfl)
             |(go_at_call 45;refine(HCM.out _ (H.out.here hcc).po).mono ?_;rintro e w5 ⟨rfl,hb5⟩;have hdd:Below w1.heap.size w1 w5:=hcc.trans (hb5.mono hcc.size);have yd4:=(H.out.here hdd).c 0 4 rfl rfl;have yd5:=(H.out.here hdd).c 0 5 rfl rfl;have yd6:=(H.out.here hdd).c 0 6 rfl rfl;have yd7:=(H.out.here hdd).c 0 7 rfl rfl;have yd8:=(H.out.here hdd).c 0 8 rfl rfl;have yd9:=(H.out.here hdd).c 0 9 rfl rfl)
             |(go_at_call_of 44 (Value.agg #[.string ⟨m.price.n.toArray⟩,.string ⟨m.price.d.toArray⟩]);refine(HS3.out _ (H.out.here hdd).pw).mono ?_;rintro e w6 ⟨rfl,hb6⟩;have hee:Below w1.heap.size w1 w6:=hdd.trans (hb6.mono hdd.size);have ye4:=(H.out.here hee).c 0 4 rfl rfl;have ye5:=(H.out.here hee).c 0 5 rfl rfl;have ye6:=(H.out.here hee).c 0 6 rfl rfl;have ye7:=(H.out.here hee).c 0 7 rfl rfl;have ye8:=(H.out.here hee).c 0 8 rfl rfl;have ye9:=(H.out.here hee).c 0 9 rfl rfl)
           ))
          |fail
          all_goals
           go_wp2_with fail
           go_meet
           first|exact⟨by simp,H.out.here hee⟩|exact⟨by simp,H.out.here hdd⟩|exact⟨by simp,H.out.here hbb⟩|exact⟨by simp,H.out.here ha⟩
        case rest=>
        obtain⟨rfl,HW⟩:=hcut
        clear x0 x1 x2 x3 x4 x5 x6 x7 x8 x9 x10
        clear H
        have H:=HW
        clear HW
        have x0:=H.out.c 0 0 rfl rfl;have x1:=H.out.c 0 1 rfl rfl;have x2:=H.out.c 0 2 rfl rfl;have x3:=H.out.c 0 3 rfl rfl;have x4:=H.out.c 0 4 rfl rfl;have x5:=H.out.c 0 5 rfl rfl;have x6:=H.out.c 0 6 rfl rfl;have x7:=H.out.c 0 7 rfl rfl;have x8:=H.out.c 0 8 rfl rfl;have x9:=H.out.c 0 9 rfl rfl;have x10:=H.out.c 0 10 rfl rfl
        generalize hr:(r1||r2||r3||r4)=rr at*
        clear hr
        cases rr with
        |true=>
         go_wp2_with fail
         first|go_ret|skip
         rw[HPO.out]
         exact⟨Zad (by simp),H.out.bl⟩
        |false=>
         clear HWD HN1 HN2 HN3 HC1 HC2 HC3 K1 K2 K3 KD HS1 HS2 HS3 HCM E1 E2 E3 E4 V1 V2 V3 V4 x0 x1 x4 x5 x8 x9
         generalize hkp:m.keep=kp at*
         have HKP:=hdz hkp
         clear hkp
         cases kp with
         |true=>
          cases he:(m.other==m.inst) with
          |true=>
           go_wp2_with fail
           first|go_ret|skip
           rw[HPO.out]
           exact⟨Zad (by simp[he]),H.out.bl⟩
          |false=>
           go_wp2_with fail
           first
           |(go_region_with (fail))
           |fail
           all_goals
            go_wp2_with fail
            first|go_ret|skip
            rw[HPO.out]
            exact⟨Zad (by simp[he]),(H.out.here (Below.refl _ _).drew).bl⟩
         |false=>
          cases hb1:(m.share.n==one.n)<;>cases hb2:(m.share.d==one.d)
          all_goals
           go_wp2_with fail
           first
           |(go_region_held3 (fun w'=>w'.cell? ⟨w.heap.size,6,none⟩=some (.string ⟨m.share.n.toArray⟩)∧w'.cell? ⟨w.heap.size,7,none⟩=some (.string ⟨m.share.d.toArray⟩)∧w'.cell? ⟨w.heap.size,10,none⟩=some (.bool false)) (first|exact ka|go_keep)
            (first
              |(go_at_call 46;refine(HO1.out _ H.out.drew.pw).mono ?_;rintro e w4 ⟨rfl,hb4⟩;have ha:Below wc.heap.size wc w4:=(Below.refl _ wc).drew.trans hb4;have ka:=And.intro ((H.out.here ha).c 0 6 rfl rfl) (And.intro ((H.out.here ha).c 0 7 rfl rfl) ((H.out.here ha).c 0 10 rfl rfl)))))
           |fail
           all_goals
            go_wp2_with fail
            first|go_ret|skip
            rw[HPO.out]
            exact⟨Zad (by simp[hb1,hb2]),(H.out.here ha).bl⟩
end
section
open Go.RowKit Go.Shelf
end
section
open Go.RowKit Go.Shelf
def newOf(ls l:List Lot):List Lot:=l.filter (fun x=>decide (x.id ∉ ls.map (·.id)))
section
variable {ls:List Lot} {m:Mp} {A B:List Lot}
abbrev oldO(ls:List Lot)(m:Mp):List Lot:=lotsOf ls m.inst
abbrev plO(ls:List Lot)(m:Mp):Plan:=planL (lotsOf ls m.inst) m
abbrev mdO(ls:List Lot)(m:Mp):List Lot:=madeL m (plO ls m) (oldO ls m)
theorem MapOk.ids(h:MapOk ls m A B):∀z∈A++B,z.id∈ls.map (·.id):=by
 intro z hz
 rw[←h.cut] at hz
 exact(Zjx m _ 0 ls).subset (List.mem_map.2 ⟨z,hz,rfl⟩)
theorem MapOk.new(h:MapOk ls m A B):newOf ls (A++mdO ls m++B)=mdO ls m:=by
 unfold newOf
 have hA:A.filter (fun x=>decide (x.id ∉ ls.map (·.id)))=[]:=by
  rw[List.filter_eq_nil_iff]
  intro z hz
  have:=h.ids z (by simp[hz])
  simpa using this
 have hB:B.filter (fun x=>decide (x.id ∉ ls.map (·.id)))=[]:=by
  rw[List.filter_eq_nil_iff]
  intro z hz
  have:=h.ids z (by simp[hz])
  simpa using this
 rw[List.filter_append,List.filter_append,hA,hB,List.nil_append,List.append_nil,List.filter_eq_self]
 intro z hz
 have:=h.free z hz
 simpa using this
theorem Zda(m:Mp)(x:Plan)(old:List Lot)(i:Nat)(hi:i≤old.length):
 ((gainTo m x old i).map (fun g=>val g.cost)).sum=((List.range i).map (fun k=>x.f.getD k 0)).sum∧((gainTo m x old i).map (fun g=>val g.proceeds)).sum=((List.range i).map (fun k=>x.p.getD k 0)).sum:=by
 induction i with
 |zero=>exact⟨rfl,rfl⟩
 |succ i ih=>
  obtain⟨h1,h2⟩:=ih (by omega)
  have e:gainTo m x old (i+1)=gainTo m x old i++(if x.p.getD i 0=0∧x.f.getD i 0=0 then[] else[{cause:=m.cause,lot:=(old[i]'(by omega)).id,inst:=m.other,acq:=(old[i]'(by omega)).acq,closed:=m.day,q:=[],proceeds:=txtL (x.p.getD i 0),cost:=txtL (x.f.getD i 0),deferred:=[],replaced:=[]}]):=by
   unfold gainTo
   rw[List.range_succ,List.filterMap_append]
   congr 1
   simp only[List.filterMap_cons,List.filterMap_nil,List.getElem?_eq_getElem (show i<old.length by omega)]
   by_cases h:x.p.getD i 0=0∧x.f.getD i 0=0
   ·simp only[if_pos h]
   ·simp only[if_neg h]
  rw[e,List.map_append,List.map_append,ZaE,ZaE,h1,h2,ZcE,ZcE]
  by_cases h:x.p.getD i 0=0∧x.f.getD i 0=0
  ·rw[if_pos h,h.1,h.2];exact⟨by simp,by simp⟩
  ·rw[if_neg h]
   simp only[List.map_cons,List.map_nil,List.sum_cons,List.sum_nil,Zaa]
   exact⟨by omega,by omega⟩
theorem MapOk.gains(h:MapOk ls m A B):((gainL m (plO ls m) (oldO ls m)).map (fun g=>val g.cost)).sum=(plO ls m).taken∧((gainL m (plO ls m) (oldO ls m)).map (fun g=>val g.proceeds)).sum=(plO ls m).cash:=by
 have hok:=Zc2 (ZaP h.ok m.inst) h.mp
 obtain⟨s1,s2,s3,s4,s5⟩:=Zcs (ZaP h.ok m.inst) h.mp h.old
 obtain⟨l1,l2,l3,l4⟩:=Za1 (lotsOf ls m.inst) m
 unfold gainL
 by_cases hp:(plO ls m).part=0
 ·rw[if_pos hp,hok.whole hp,hok.cash1 hp];exact⟨rfl,rfl⟩
 ·rw[if_neg hp]
  obtain⟨e1,e2⟩:=Zda m (plO ls m) (oldO ls m) (oldO ls m).length (Nat.le_refl _)
  have f1:=Zgb (plO ls m).f
  have f2:=Zgb (plO ls m).p
  rw[l3] at f1
  rw[l4] at f2
  rw[e1,e2,f1,f2,s3,s4]
  exact⟨rfl,rfl⟩
end
end
section
open Go.RowKit Go.Shelf
theorem Ziu(m:Mp)(x:Plan)(old:List Lot)(i:Nat)(hi:i<old.length):stpTo m x old (i+1)=stpTo m x old i++stp2 m x i old[i]:=by
 unfold stpTo
 rw[List.range_succ,List.flatMap_append]
 simp[List.getElem?_eq_getElem hi]
end
section
open Go.RowKit Go.Shelf
end
section
open Go.RowKit Go.Shelf
section
variable {ls:List Lot} {m:Mp}
end
end
section
open Go.RowKit Go.Shelf
def totL(l:List Lot)(i:List UInt8)(g:Lot→Int):Int:=((lotsOf l i).map g).sum
def Mp.none:Mp:=⟨[],0,[],[],Fr.zero,Fr.zero,Fr.zero,false⟩
end
section
open Go.RowKit Go.Shelf
attribute [local go_sem ↓] Go.wp_at_zero Go.wp_at_succ
structure Mp.Bad (m:Mp):Prop where
 bad:(nameB m.cause&&nameB m.inst&&nameB m.other)=false
 d1: -9223372036854775808≤m.day
 d2:m.day≤9223372036854775807
theorem Mp.Sz.more{L K:Nat}{m:Mp}(h:m.Sz L)(hK:L≤K):m.Sz K:=⟨Nat.le_trans h.cause hK,Nat.le_trans h.inst hK,Nat.le_trans h.other hK,h.ratio.more hK,h.share.more hK,h.price.more hK,h.d1,h.d2⟩
theorem Mp.Bad.c{m:Mp}(h:m.Bad):mpC m=23:=by
 unfold mpC
 rw[h.bad]
 rfl
theorem Ziv(m:Mp)(hm:m.Bad):Gives 10 #[MpV m] (.int .i64 (mpC m)):=by
 intro w hp
 rw[hm.c]
 have H:=hdz ((Kp.start hp).new w.heap.size rfl #[.string ⟨m.cause.toArray⟩,.int .i64 m.day,.string ⟨m.inst.toArray⟩,.string ⟨m.other.toArray⟩,.string ⟨m.ratio.n.toArray⟩,.string ⟨m.ratio.d.toArray⟩,.string ⟨m.share.n.toArray⟩,.string ⟨m.share.d.toArray⟩,.string ⟨m.price.n.toArray⟩,.string ⟨m.price.d.toArray⟩,.bool m.keep] 28)
 have HWD:=hdz (Zeq m.day hm.d1 hm.d2)
 have HN1:=hdz (Zbu m.cause);have HN2:=hdz (Zbu m.inst);have HN3:=hdz (Zbu m.other)
 have hb:=hm.bad
 generalize (if dayB m.day=true then(0:Int) else 13)=cd at*
 generalize wkd m.day=wk at*
 generalize nameB m.cause=n1 at *; generalize nameB m.inst=n2 at *; generalize nameB m.other=n3 at*
 have eA:(mpA m).toArray=#[.string ⟨m.cause.toArray⟩,.int .i64 m.day,.string ⟨m.inst.toArray⟩,.string ⟨m.other.toArray⟩,.string ⟨m.ratio.n.toArray⟩,.string ⟨m.ratio.d.toArray⟩,.string ⟨m.share.n.toArray⟩,.string ⟨m.share.d.toArray⟩,.string ⟨m.price.n.toArray⟩,.string ⟨m.price.d.toArray⟩,.bool m.keep]:=rfl
 unfold MpV
 rw[eA]
 clear eA hm hp
 unfold S at*
 have z0:(w.alloc (.cells #[.string ⟨m.cause.toArray⟩,.int .i64 m.day,.string ⟨m.inst.toArray⟩,.string ⟨m.other.toArray⟩,.string ⟨m.ratio.n.toArray⟩,.string ⟨m.ratio.d.toArray⟩,.string ⟨m.share.n.toArray⟩,.string ⟨m.share.d.toArray⟩,.string ⟨m.price.n.toArray⟩,.string ⟨m.price.d.toArray⟩,.bool m.keep] 28)).cell? ⟨w.heap.size,1,none⟩=some (.int .i64 m.day):=H.out.c 0 1 rfl rfl
 have hcase:n1=false∨(n1=true∧n2=false)∨(n1=true∧n2=true∧n3=false):=by
  cases n1<;>cases n2<;>cases n3<;>simp_all
 clear hb
 rcases hcase with rfl|⟨rfl,rfl⟩|⟨rfl,rfl,rfl⟩
 ·go_enter Tryz.func10,Tryz.ntmps10
  go_wp2_with fail
  generalize w.alloc _=W at*
  refine(HWD.out _ H.out.pw).mono ?_
  rintro e w1 ⟨rfl,hb1⟩
  have H1:=hdz (H.out.here hb1)
  clear hb1 z0
  have c0:=H1.out.c 0 0 rfl rfl;have c2:=H1.out.c 0 2 rfl rfl;have c3:=H1.out.c 0 3 rfl rfl
  go_wp2_with fail
  refine(HN1.out _ H1.out.pw).mono ?_
  rintro e w2 ⟨rfl,hb2⟩
  have H2:=hdz (H1.out.here hb2)
  clear hb2 c0 c2 c3
  go_wp2_with fail
  first|go_ret|skip
  exact⟨rfl,H2.out.bl⟩
 ·go_enter Tryz.func10,Tryz.ntmps10
  go_wp2_with fail
  generalize w.alloc _=W at*
  refine(HWD.out _ H.out.pw).mono ?_
  rintro e w1 ⟨rfl,hb1⟩
  have H1:=hdz (H.out.here hb1)
  clear hb1 z0
  have c0:=H1.out.c 0 0 rfl rfl;have c2:=H1.out.c 0 2 rfl rfl;have c3:=H1.out.c 0 3 rfl rfl
  go_wp2_with fail
  refine(HN1.out _ H1.out.pw).mono ?_
  rintro e w2 ⟨rfl,hb2⟩
  have H2:=hdz (H1.out.here hb2)
  clear hb2 c0 c2 c3
  have c2:=H2.out.c 0 2 rfl rfl;have c3:=H2.out.c 0 3 rfl rfl
  go_wp2_with fail
  refine(HN2.out _ H2.out.pw).mono ?_
  rintro e w3 ⟨rfl,hb3⟩
  have H3:=hdz (H2.out.here hb3)
  clear hb3 c2 c3
  go_wp2_with fail
  first|go_ret|skip
  exact⟨rfl,H3.out.bl⟩
 ·go_enter Tryz.func10,Tryz.ntmps10
  go_wp2_with fail
  generalize w.alloc _=W at*
  refine(HWD.out _ H.out.pw).mono ?_
  rintro e w1 ⟨rfl,hb1⟩
  have H1:=hdz (H.out.here hb1)
  clear hb1 z0
  have c0:=H1.out.c 0 0 rfl rfl;have c2:=H1.out.c 0 2 rfl rfl;have c3:=H1.out.c 0 3 rfl rfl
  go_wp2_with fail
  refine(HN1.out _ H1.out.pw).mono ?_
  rintro e w2 ⟨rfl,hb2⟩
  have H2:=hdz (H1.out.here hb2)
  clear hb2 c0 c2 c3
  have c2:=H2.out.c 0 2 rfl rfl;have c3:=H2.out.c 0 3 rfl rfl
  go_wp2_with fail
  refine(HN2.out _ H2.out.pw).mono ?_
  rintro e w3 ⟨rfl,hb3⟩
  have H3:=hdz (H2.out.here hb3)
  clear hb3 c2 c3
  have c3:=H3.out.c 0 3 rfl rfl
  go_wp2_with fail
  refine(HN3.out _ H3.out.pw).mono ?_
  rintro e w4 ⟨rfl,hb4⟩
  have H4:=hdz (H3.out.here hb4)
  clear hb4 c3
  go_wp2_with fail
  first|go_ret|skip
  exact⟨rfl,H4.out.bl⟩
theorem Ziw(m:Mp)(h:m.Sz 5000∨m.Bad):Gives 10 #[MpV m] (.int .i64 (mpC m)):=h.elim (Zit m) (Ziv m)
end
section
open Go.RowKit Go.Shelf
def lngF(f:Fr):Bool:=decide (10<f.n.length∨10<f.d.length)
theorem ZgZ{f:Fr}(h:lngF f=false):f.Sz 10:=by
 unfold lngF at h
 simp at h
 exact⟨by omega,by omega⟩
theorem ZcP(f:Fr)(w:World)(_h1:f.n.length≤maxLen)(_h2:f.d.length≤maxLen):Calls Tryz.prog 54 #[FrV f] w fun e w'=>e=.returned (.bool (lngF f))∧Below w.heap.size w w':=by
 obtain⟨x0,x1⟩:=(FrB.new w f).cells
 have hbA:Below w.heap.size w (w.alloc (.cells #[.string ⟨f.n.toArray⟩,.string ⟨f.d.toArray⟩] 26)):=(Below.refl _ _).alloc (Nat.le_refl _) _
 have HBA:=hdz hbA;clear hbA _h1 _h2
 unfold FrV S
 by_cases ha:10<f.n.length
 ·have HD:=hdz (show lngF f=true by simp[lngF,ha])
  rw[HD.out]
  go_enter Tryz.func54,Tryz.ntmps54
  go_wp2_with fail
  go_ret
  exact⟨rfl,HBA.out⟩
 ·have hdec:decide (10<f.n.length)=false:=by simpa using ha
  have HD:=hdz (show lngF f=decide (10<f.d.length) by simp[lngF,ha])
  rw[HD.out]
  go_enter Tryz.func54,Tryz.ntmps54
  go_wp2_with fail
  go_ret
  refine⟨?_,HBA.out⟩
  refine Zaf ?_
  rw[Bool.eq_iff_iff]
  simp
  omega
def lenM(m:Mp):Int:=wrap64 (wrap64 ((m.cause.length:Int)+(m.inst.length:Int))+(m.other.length:Int))
def longM(m:Mp):Bool:=decide (72<lenM m)||(lngF m.ratio||lngF m.share||lngF m.price)
theorem ZjM(n:Int)(h: -9223372036854775808≤n∧n≤9223372036854775807):wrap64 n=n:=by unfold wrap64;omega
theorem Zdt{s:List UInt8}(h:16<s.length):nameB s=false:=by
 unfold nameB
 rw[decide_eq_false (show ¬s.length≤16 by omega)]
 simp
structure Mp.Max (m:Mp):Prop where
 cause:m.cause.length≤maxLen
 inst:m.inst.length≤maxLen
 other:m.other.length≤maxLen
 rn:m.ratio.n.length≤maxLen
 rd:m.ratio.d.length≤maxLen
 sn:m.share.n.length≤maxLen
 sd:m.share.d.length≤maxLen
 pn:m.price.n.length≤maxLen
 pd:m.price.d.length≤maxLen
theorem Zlh{m:Mp}(h:longM m=false)(h1: -9223372036854775808≤m.day)(h2:m.day≤9223372036854775807):m.ratio.Sz 10∧m.share.Sz 10∧m.price.Sz 10∧(m.Sz 72∨m.Bad):=by
 unfold longM at h
 simp only[Bool.or_eq_false_iff,decide_eq_false_iff_not] at h
 obtain⟨a,⟨b,c⟩,d⟩:=h
 have hb:=ZgZ b;have hc:=ZgZ c;have hd:=ZgZ d
 refine⟨hb,hc,hd,?_⟩
 by_cases hs:m.cause.length+m.inst.length+m.other.length≤9223372036854775807
 ·unfold lenM at a
  rw[ZjM ((m.cause.length:Int)+(m.inst.length:Int)) (by omega),ZjM _ (by omega)] at a
  exact .inl ⟨by omega,by omega,by omega,hb.more (by omega),hc.more (by omega),hd.more (by omega),h1,h2⟩
 ·refine .inr ⟨?_,h1,h2⟩
  by_cases g1:16<m.cause.length
  ·rw[Zdt g1];rfl
  ·by_cases g2:16<m.inst.length
   ·rw[Zdt g2];simp
   ·rw[Zdt (s:=m.other) (by omega)];simp
theorem Zix(m:Mp)(w:World)(hm:m.Max):Calls Tryz.prog 13 #[MpV m] w fun e w'=>e=.returned (.bool (longM m))∧Below w.heap.size w w':=by
 have H:=hdz ((Below.refl w.heap.size w).alloc (Nat.le_refl _) (.cells #[.string ⟨m.cause.toArray⟩,.int .i64 m.day,.string ⟨m.inst.toArray⟩,.string ⟨m.other.toArray⟩,.string ⟨m.ratio.n.toArray⟩,.string ⟨m.ratio.d.toArray⟩,.string ⟨m.share.n.toArray⟩,.string ⟨m.share.d.toArray⟩,.string ⟨m.price.n.toArray⟩,.string ⟨m.price.d.toArray⟩,.bool m.keep] 28))
 have HWS:=hdz (show(w.alloc (.cells #[.string ⟨m.cause.toArray⟩,.int .i64 m.day,.string ⟨m.inst.toArray⟩,.string ⟨m.other.toArray⟩,.string ⟨m.ratio.n.toArray⟩,.string ⟨m.ratio.d.toArray⟩,.string ⟨m.share.n.toArray⟩,.string ⟨m.share.d.toArray⟩,.string ⟨m.price.n.toArray⟩,.string ⟨m.price.d.toArray⟩,.bool m.keep] 28)).heap.size=w.heap.size+1 by simp)
 have HLM:=hdz (show longM m=(decide (72<lenM m)||(lngF m.ratio||lngF m.share||lngF m.price)) from rfl)
 have HC:=hdz (fun(W:World) (A:Option Addr) (c:Nat) (h:Frs W W.heap.size A 3 [m.ratio,m.share,m.price])=>Zfw 54 lngF A 3 c [m.ratio,m.share,m.price] W (enters_of Tryz.func54 (by kernel_rfl) rfl) (fun W x hx _=>by
  simp only[List.mem_cons,List.mem_nil_iff,or_false] at hx
  rcases hx with rfl|rfl|rfl
  ·exact ZcP _ W hm.rn hm.rd
  ·exact ZcP _ W hm.sn hm.sd
  ·exact ZcP _ W hm.pn hm.pd) h (by omega))
 rw[show[m.ratio,m.share,m.price].any lngF=(lngF m.ratio||lngF m.share||lngF m.price) by simp[Bool.or_assoc]] at HC
 have HSL:=hdz (fun W=>Sl.lit (enc:=F2) (k:=2) W #[.string ⟨m.ratio.n.toArray⟩,.string ⟨m.ratio.d.toArray⟩,.string ⟨m.share.n.toArray⟩,.string ⟨m.share.d.toArray⟩,.string ⟨m.price.n.toArray⟩,.string ⟨m.price.d.toArray⟩] 26 [m.ratio,m.share,m.price] rfl ZjD)
 generalize longM m=lg at*
 generalize (lngF m.ratio||lngF m.share||lngF m.price)=lf at*
 clear hm
 unfold MpV mpA S
 by_cases hb:72<lenM m
 ·have hb2:(72:Int)<wrap64 (wrap64 ((m.cause.length:Int)+(m.inst.length:Int))+(m.other.length:Int)):=hb
  rw[decide_eq_true hb,Bool.true_or] at HLM
  clear hb
  go_enter Tryz.func13,Tryz.ntmps13
  go_wp2_with fail
  go_ret
  exact⟨Zaf HLM.out.symm,H.out⟩
 ·have hb2:¬(72:Int)<wrap64 (wrap64 ((m.cause.length:Int)+(m.inst.length:Int))+(m.other.length:Int)):=hb
  rw[decide_eq_false hb,Bool.false_or] at HLM
  clear hb
  go_enter Tryz.func13,Tryz.ntmps13
  go_wp2_with fail
  generalize w.alloc _=W at*
  have hsl:=HSL.out W
  have hsl2:Frs (W.alloc (.cells #[.string ⟨m.ratio.n.toArray⟩,.string ⟨m.ratio.d.toArray⟩,.string ⟨m.share.n.toArray⟩,.string ⟨m.share.d.toArray⟩,.string ⟨m.price.n.toArray⟩,.string ⟨m.price.d.toArray⟩] 26)) (W.alloc (.cells #[.string ⟨m.ratio.n.toArray⟩,.string ⟨m.ratio.d.toArray⟩,.string ⟨m.share.n.toArray⟩,.string ⟨m.share.d.toArray⟩,.string ⟨m.price.n.toArray⟩,.string ⟨m.price.d.toArray⟩] 26)).heap.size (some ⟨w.heap.size+1,0,none⟩) 3 [m.ratio,m.share,m.price]:=by rw[←HWS.out];exact hsl.more (by simp)
  refine(HC.out _ _ _ hsl2).mono ?_
  rintro e w1 ⟨rfl,hb1⟩
  clear hsl hsl2
  go_wp2_with fail
  go_ret
  exact⟨Zaf HLM.out.symm,H.out.trans ((((Below.refl _ W).alloc (Nat.le_refl _) _).trans (hb1.mono (by simp))).mono H.out.size)⟩
def grt1(x:Lot):Bool:=decide (13<x.q.length)||decide (13<x.c.length)||decide (13<x.u.length)||decide (40<x.id.length)||decide (40<x.inst.length)
def grtL(xs:List Lot):Bool:=(decide (12<xs.length)&&decide (xs.length<999))||decide (1002<xs.length)||xs.any grt1
structure Lot.Max (x:Lot):Prop where
 id:x.id.length≤maxLen
 inst:x.inst.length≤maxLen
 q:x.q.length≤maxLen
 c:x.c.length≤maxLen
 u:x.u.length≤maxLen
theorem Zes(a:List UInt8)(w:World):Calls Tryz.prog 122 #[S a] w fun e w'=>e=.returned (.bool (decide (13<a.length)))∧w=w':=by
 unfold S
 go_enter Tryz.func122,Tryz.ntmps122
 go_wp2_with fail
 go_ret
 refine⟨Zaf ?_,rfl⟩
 rw[Bool.eq_iff_iff]
 simp
 omega
theorem Zdb(x:Lot)(w:World):Calls Tryz.prog 70 #[LotV x] w fun e w'=>e=.returned (.bool (grt1 x))∧Below w.heap.size w w':=by
 have HB:=hdz ((Below.refl w.heap.size w).alloc (Nat.le_refl _) (.cells #[.string ⟨x.id.toArray⟩,.string ⟨x.inst.toArray⟩,.int .i64 x.acq,.int .i64 x.opn,.string ⟨x.q.toArray⟩,.string ⟨x.c.toArray⟩,.string ⟨x.u.toArray⟩] 54))
 have HQ:=hdz (fun W=>Zes x.q W)
 have HC:=hdz (fun W=>Zes x.c W)
 have HU:=hdz (fun W=>Zes x.u W)
 have HG:=hdz (show grt1 x=(decide (13<x.q.length)||decide (13<x.c.length)||decide (13<x.u.length)||decide (40<x.id.length)||decide (40<x.inst.length)) from rfl)
 generalize grt1 x=gr at*
 unfold LotV S
 unfold S at*
 by_cases h1:13<x.q.length
 ·rw[decide_eq_true h1] at HQ HG
  go_enter Tryz.func70,Tryz.ntmps70
  go_wp2_with fail
  refine(HQ.out _).mono ?_
  rintro e w1 ⟨rfl,rfl⟩
  go_wp2_with fail
  go_ret
  exact⟨Zaf (by rw[HG.out];simp),HB.out⟩
 ·rw[decide_eq_false h1] at HQ HG
  by_cases h2:13<x.c.length
  ·rw[decide_eq_true h2] at HC HG
   go_enter Tryz.func70,Tryz.ntmps70
   go_wp2_with fail
   refine(HQ.out _).mono ?_
   rintro e w1 ⟨rfl,rfl⟩
   go_wp2_with fail
   refine(HC.out _).mono ?_
   rintro e w1 ⟨rfl,rfl⟩
   go_wp2_with fail
   go_ret
   exact⟨Zaf (by rw[HG.out];simp),HB.out⟩
  ·rw[decide_eq_false h2] at HC HG
   by_cases h3:13<x.u.length
   ·rw[decide_eq_true h3] at HU HG
    go_enter Tryz.func70,Tryz.ntmps70
    go_wp2_with fail
    refine(HQ.out _).mono ?_
    rintro e w1 ⟨rfl,rfl⟩
    go_wp2_with fail
    refine(HC.out _).mono ?_
    rintro e w1 ⟨rfl,rfl⟩
    go_wp2_with fail
    refine(HU.out _).mono ?_
    rintro e w1 ⟨rfl,rfl⟩
    go_wp2_with fail
    go_ret
    exact⟨Zaf (by rw[HG.out];simp),HB.out⟩
   ·rw[decide_eq_false h3] at HU HG
    clear h1 h2 h3
    by_cases h4:40<x.id.length
    ·rw[decide_eq_true h4] at HG
     have h4':(40:Int)<(x.id.length:Int):=by omega
     clear h4
     go_enter Tryz.func70,Tryz.ntmps70
     go_wp2_with fail
     refine(HQ.out _).mono ?_
     rintro e w1 ⟨rfl,rfl⟩
     go_wp2_with fail
     refine(HC.out _).mono ?_
     rintro e w1 ⟨rfl,rfl⟩
     go_wp2_with fail
     refine(HU.out _).mono ?_
     rintro e w1 ⟨rfl,rfl⟩
     go_wp2_with fail
     go_ret
     exact⟨Zaf (by rw[HG.out];simp),HB.out⟩
    ·rw[decide_eq_false h4] at HG
     have h4':¬(40:Int)<(x.id.length:Int):=by omega
     clear h4
     by_cases h5:40<x.inst.length
     ·rw[decide_eq_true h5] at HG
      have h5':(40:Int)<(x.inst.length:Int):=by omega
      clear h5
      go_enter Tryz.func70,Tryz.ntmps70
      go_wp2_with fail
      refine(HQ.out _).mono ?_
      rintro e w1 ⟨rfl,rfl⟩
      go_wp2_with fail
      refine(HC.out _).mono ?_
      rintro e w1 ⟨rfl,rfl⟩
      go_wp2_with fail
      refine(HU.out _).mono ?_
      rintro e w1 ⟨rfl,rfl⟩
      go_wp2_with fail
      go_ret
      exact⟨Zaf (by rw[HG.out];simp),HB.out⟩
     ·rw[decide_eq_false h5] at HG
      have h5':¬(40:Int)<(x.inst.length:Int):=by omega
      clear h5
      go_enter Tryz.func70,Tryz.ntmps70
      go_wp2_with fail
      refine(HQ.out _).mono ?_
      rintro e w1 ⟨rfl,rfl⟩
      go_wp2_with fail
      refine(HC.out _).mono ?_
      rintro e w1 ⟨rfl,rfl⟩
      go_wp2_with fail
      refine(HU.out _).mono ?_
      rintro e w1 ⟨rfl,rfl⟩
      go_wp2_with fail
      go_ret
      exact⟨Zaf (by rw[HG.out];simp;omega),HB.out⟩
theorem ZhK{p:Lot→Bool}{xs:List Lot}{k:Nat}{x:Lot}(h:xs[k]?=some x):(xs.take (k+1)).any p=((xs.take k).any p||p x):=by
 obtain⟨hk,rfl⟩:=List.getElem?_eq_some_iff.1 h
 rw[List.take_succ_eq_append_getElem hk,List.any_append]
 simp
theorem Ziy(A:Option Addr)(n c:Nat)(xs:List Lot)(w:World)(hs:Lots w w.heap.size A n xs)(hn:n≤9223372036854775807):Calls Tryz.prog 22 #[.slice A n c] w fun e w'=>e=.returned (.bool (grtL xs))∧Below w.heap.size w w':=by
 have HS:=hdz hs
 have hnx:=hs.1
 have HG:=hdz (show grtL xs=((decide (12<n)&&decide (n<999))||decide (1002<n)||xs.any grt1) by rw[hnx];rfl)
 have HNX:=hdz hnx
 generalize grtL xs=gr at*
 clear hs hnx
 by_cases h1:12<n
 ·by_cases h2:n<999
  ·rw[decide_eq_true h1,decide_eq_true h2] at HG
   have a1:(12:Int)<(n:Int):=by omega
   have a2:(n:Int)<999:=by omega
   clear h1 h2
   go_enter Tryz.func22,Tryz.ntmps22
   go_wp2_with fail
   go_ret
   exact⟨Zaf (by rw[HG.out];simp),Below.refl _ _⟩
  ·rw[decide_eq_true h1,decide_eq_false h2] at HG
   by_cases h3:1002<n
   ·rw[decide_eq_true h3] at HG
    have a1:(12:Int)<(n:Int):=by omega
    have a2:¬(n:Int)<999:=by omega
    have a3:(1002:Int)<(n:Int):=by omega
    clear h1 h2 h3
    go_enter Tryz.func22,Tryz.ntmps22
    go_wp2_with fail
    go_ret
    exact⟨Zaf (by rw[HG.out];simp),Below.refl _ _⟩
   ·rw[decide_eq_false h3] at HG
    have a1:(12:Int)<(n:Int):=by omega
    have a2:¬(n:Int)<999:=by omega
    have a3:¬(1002:Int)<(n:Int):=by omega
    clear h1 h2 h3
    go_enter Tryz.func22,Tryz.ntmps22
    go_wp2_with fail
    go_loopw [3] (fun i wr=>∃k:Nat,k≤n∧i=.int .i64 k∧Hid ((xs.take k).any grt1=false)∧Hid (Below w.heap.size w wr)) (fun i _=>n-(intOf i).toNat)
    case atStart=>exact⟨0,Nat.zero_le _,rfl,(show _=_ by simp),Below.refl _ _⟩
    case round=>
     obtain⟨k,hk,rfl,HAN,HBR⟩:=hrel
     by_cases hlt:k<n
     ·obtain⟨b,off,x,rfl,hb,hx,d0,d1,d2,d3,d4,d5,d6⟩:=(HS.out.here HBR.out).lot7 hlt
      have HAT:=hdz (ZhK (p:=grt1) hx)
      have HMX:=hdz (List.mem_of_getElem? hx)
      clear hx
      have HGO:=hdz (Zdb x wr)
      have HGX:=hdz (show grt1 x=true→xs.any grt1=true from fun h=>List.any_eq_true.2 ⟨x,HMX.out,h⟩)
      generalize grt1 x=gx at*
      unfold LotV S at HGO
      cases gx with
      |true=>
       go_wp2_with fail
       refine HGO.out.mono ?_
       rintro e w1 ⟨rfl,hb1⟩
       go_wp2_with fail
       go_ret
       exact⟨Zaf (by have hg:=HGX.out;simp only[forall_const] at hg;rw[HG.out,hg];simp),HBR.out.trans (hb1.mono HBR.out.size)⟩
      |false=>
       go_wp2_with fail
       refine HGO.out.mono ?_
       rintro e w1 ⟨rfl,hb1⟩
       go_wp2_with fail
       go_roundw
       case rel=>exact⟨k+1,by omega,by go_num,(show _=_ by rw[HAT.out,HAN.out];rfl),HBR.out.trans (hb1.mono HBR.out.size)⟩
       case measure=>simp[intOf];omega
     ·have HTK:=hdz (show xs.any grt1=false by have:=HAN.out;rwa [List.take_of_length_le (by have:=HNX.out;omega)] at this)
      go_wp2_with fail
      go_ret
      exact⟨Zaf (by rw[HG.out,HTK.out];simp),HBR.out⟩
 ·rw[decide_eq_false h1] at HG
  have h3:¬1002<n:=by omega
  rw[decide_eq_false h3] at HG
  have a1:¬(12:Int)<(n:Int):=by omega
  have a3:¬(1002:Int)<(n:Int):=by omega
  clear h1 h3
  go_enter Tryz.func22,Tryz.ntmps22
  go_wp2_with fail
  go_loopw [3] (fun i wr=>∃k:Nat,k≤n∧i=.int .i64 k∧Hid ((xs.take k).any grt1=false)∧Hid (Below w.heap.size w wr)) (fun i _=>n-(intOf i).toNat)
  case atStart=>exact⟨0,Nat.zero_le _,rfl,(show _=_ by simp),Below.refl _ _⟩
  case round=>
   obtain⟨k,hk,rfl,HAN,HBR⟩:=hrel
   by_cases hlt:k<n
   ·obtain⟨b,off,x,rfl,hb,hx,d0,d1,d2,d3,d4,d5,d6⟩:=(HS.out.here HBR.out).lot7 hlt
    have HAT:=hdz (ZhK (p:=grt1) hx)
    have HMX:=hdz (List.mem_of_getElem? hx)
    clear hx
    have HGO:=hdz (Zdb x wr)
    have HGX:=hdz (show grt1 x=true→xs.any grt1=true from fun h=>List.any_eq_true.2 ⟨x,HMX.out,h⟩)
    generalize grt1 x=gx at*
    unfold LotV S at HGO
    cases gx with
    |true=>
     go_wp2_with fail
     refine HGO.out.mono ?_
     rintro e w1 ⟨rfl,hb1⟩
     go_wp2_with fail
     go_ret
     exact⟨Zaf (by have hg:=HGX.out;simp only[forall_const] at hg;rw[HG.out,hg];simp),HBR.out.trans (hb1.mono HBR.out.size)⟩
    |false=>
     go_wp2_with fail
     refine HGO.out.mono ?_
     rintro e w1 ⟨rfl,hb1⟩
     go_wp2_with fail
     go_roundw
     case rel=>exact⟨k+1,by omega,by go_num,(show _=_ by rw[HAT.out,HAN.out];rfl),HBR.out.trans (hb1.mono HBR.out.size)⟩
     case measure=>simp[intOf];omega
   ·have HTK:=hdz (show xs.any grt1=false by have:=HAN.out;rwa [List.take_of_length_le (by have:=HNX.out;omega)] at this)
    go_wp2_with fail
    go_ret
    exact⟨Zaf (by rw[HG.out,HTK.out];simp),HBR.out⟩
end
end Go.Proofs.YtpnncoinlopndaaGreatDoor
