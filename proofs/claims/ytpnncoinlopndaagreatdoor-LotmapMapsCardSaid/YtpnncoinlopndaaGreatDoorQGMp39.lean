/- Mq5p, Lw1, Mq5, Mq7, Lw2, Lw3, Gv, Mq6, EqG. -/
import Derived.Test.YtpnncoinlopndaaGreatDoorQGMp46
import Derived.Test.YtpnncoinlopndaaGreatDoorQGMp29
import Derived.Test.YtpnncoinlopndaaGreatDoorQGMp10
set_option maxRecDepth 100000
set_option maxHeartbeats 4000000
namespace Go.Proofs.YtpnncoinlopndaaGreatDoor
open Go.Lib renaming hid→jq
open Go.RowKit Go.Shelf
section
end
section
attribute [local go_sem ↓] Go.wp_at_zero Go.wp_at_succ
theorem Zhu(m:Mp)(hm:m.Sz 5000):Xb 10 #[MpV m] (.int .i64 (JE m)):=by
 intro w hp;have HPO:=jq (Zgg m);generalize JE m=res at*;have H:=jq ((Kp.start hp).new w.1.size rfl #[.string ⟨m.cause.toArray⟩,.int .i64 m.day,.string ⟨m.inst.toArray⟩,.string ⟨m.other.toArray⟩,.string ⟨m.ratio.n.toArray⟩,.string ⟨m.ratio.d.toArray⟩,.string ⟨m.share.n.toArray⟩,.string ⟨m.share.d.toArray⟩,.string ⟨m.price.n.toArray⟩,.string ⟨m.price.d.toArray⟩,.bool m.keep] 28);have HWD:=jq (Zcz m.day hm.d1 hm.d2);have HN1:=jq (Vc m.cause);have HN2:=jq (Vc m.inst);have HN3:=jq (Vc m.other);have HC1:=jq (fun W hp=>Za0 m.ratio W hp (hm.ratio.more (by omega)));have HC2:=jq (fun W hp=>Za0 m.share W hp (hm.share.more (by omega)));have HC3:=jq (fun W hp=>Za0 m.price W hp (hm.price.more (by omega)));rw[show Vf m.ratio=if decide m.ratio.ok=true then 0 else 1 by unfold Vf;simp] at HC1;rw[show Vf m.share=if decide m.share.ok=true then 0 else 1 by unfold Vf;simp] at HC2;rw[show Vf m.price=if decide m.price.ok=true then 0 else 1 by unfold Vf;simp] at HC3;have HS1:=jq (Ju m.ratio (hm.ratio.more (by omega)));have HS2:=jq (Ju m.share (hm.share.more (by omega)));have HS3:=jq (Ju m.price (hm.price.more (by omega)));have HO1:=jq Zke;have hosz:(Qf 1).Sz 20000:=by rw[show(1:Rat)=((1:Int):Rat) from rfl,Jv];exact⟨by decide+kernel,by simp⟩
 have HCM:=jq (fun W hp=>Zbn m.share (Qf 1) W hp (hm.share.more (by omega)) hosz);rw[Qj] at HCM;have e1:=Ze8 m.ratio.rat 0;have e2:=ZbG m.share.rat 0;have e3:=Ze9 m.share.rat 1;have e4:=ZbG m.price.rat 0;have E1:=jq e1;have E2:=jq e2;have E3:=jq e3;have E4:=jq e4;clear e1 e2 e3 e4 hosz hm hp;have v1:=ZaM m.ratio.rat 0;have v2:=ZaM m.share.rat 0;have v3:=ZaM m.share.rat 1;have v4:=ZaM m.price.rat 0;generalize Xe m.ratio.rat 0=z1 at *; generalize Xe m.share.rat 0=z2 at *; generalize Xe m.share.rat 1=z3 at *; generalize Xe m.price.rat 0=z4 at*;have V1:=jq v1;have V2:=jq v2;have V3:=jq v3;have V4:=jq v4;clear v1 v2 v3 v4;generalize decide (m.ratio.rat<=0)=r1 at *; generalize decide (m.share.rat<0)=r2 at *; generalize decide (1<m.share.rat)=r3 at *; generalize decide (m.price.rat<0)=r4 at*;generalize decide m.ratio.ok=o1 at *; generalize decide m.share.ok=o2 at *; generalize decide m.price.ok=o3 at*;generalize hc1:(if o1=true then(0:Int) else 1)=c1 at *; generalize hc2:(if o2=true then(0:Int) else 1)=c2 at *; generalize hc3:(if o3=true then(0:Int) else 1)=c3 at*;generalize hcd:(if XP m.day=true then(0:Int) else 13)=cd at*;have KD:=jq hcd;clear hcd;have K1:=jq hc1;have K2:=jq hc2;have K3:=jq hc3;clear hc1 hc2 hc3;generalize Qf 1=one at*;generalize QG m.cause=n1 at *; generalize QG m.inst=n2 at *; generalize QG m.other=n3 at *; generalize XP m.day=dd at*;generalize wkd m.day=wk at*;have eA:(mpA m).toArray=#[.string ⟨m.cause.toArray⟩,.int .i64 m.day,.string ⟨m.inst.toArray⟩,.string ⟨m.other.toArray⟩,.string ⟨m.ratio.n.toArray⟩,.string ⟨m.ratio.d.toArray⟩,.string ⟨m.share.n.toArray⟩,.string ⟨m.share.d.toArray⟩,.string ⟨m.price.n.toArray⟩,.string ⟨m.price.d.toArray⟩,.bool m.keep]:=rfl;unfold MpV;rw[eA];clear eA;unfold QC at*
 unfold S at*
 have x0:=H.out.c 0 0 rfl rfl;have x1:=H.out.c 0 1 rfl rfl;have x2:=H.out.c 0 2 rfl rfl;have x3:=H.out.c 0 3 rfl rfl;have x4:=H.out.c 0 4 rfl rfl;have x5:=H.out.c 0 5 rfl rfl;have x6:=H.out.c 0 6 rfl rfl;have x7:=H.out.c 0 7 rfl rfl;have x8:=H.out.c 0 8 rfl rfl;have x9:=H.out.c 0 9 rfl rfl;have x10:=H.out.c 0 10 rfl rfl;go_enter Tryz.func10,Tryz.ntmps10
 go_wp2_with fail
 generalize w.alloc _=W at*;refine(HWD.out _ H.out.pw).mono ?_;rintro e w1 ⟨rfl,hb⟩;replace H:=jq (H.out.here hb);clear hb;clear x0 x1 x2 x3 x4 x5 x6 x7 x8 x9 x10
 have x0:=H.out.c 0 0 rfl rfl;have x1:=H.out.c 0 1 rfl rfl;have x2:=H.out.c 0 2 rfl rfl;have x3:=H.out.c 0 3 rfl rfl;have x4:=H.out.c 0 4 rfl rfl;have x5:=H.out.c 0 5 rfl rfl;have x6:=H.out.c 0 6 rfl rfl;have x7:=H.out.c 0 7 rfl rfl;have x8:=H.out.c 0 8 rfl rfl;have x9:=H.out.c 0 9 rfl rfl;have x10:=H.out.c 0 10 rfl rfl;go_wp2_with fail
 refine(HN1.out _ H.out.pw).mono ?_;rintro e w1 ⟨rfl,hb⟩;replace H:=jq (H.out.here hb);clear hb;clear x0 x1 x2 x3 x4 x5 x6 x7 x8 x9 x10
 have x0:=H.out.c 0 0 rfl rfl;have x1:=H.out.c 0 1 rfl rfl;have x2:=H.out.c 0 2 rfl rfl;have x3:=H.out.c 0 3 rfl rfl;have x4:=H.out.c 0 4 rfl rfl;have x5:=H.out.c 0 5 rfl rfl;have x6:=H.out.c 0 6 rfl rfl;have x7:=H.out.c 0 7 rfl rfl;have x8:=H.out.c 0 8 rfl rfl;have x9:=H.out.c 0 9 rfl rfl;have x10:=H.out.c 0 10 rfl rfl
 cases n1 with
 |false=>
  go_wp2_with fail
  first|go_ret|skip
  rw[HPO.out];exact⟨Qp (by simp),H.out.bl⟩
 |true=>
  go_wp2_with fail
  refine(HN2.out _ H.out.pw).mono ?_;rintro e w1 ⟨rfl,hb⟩;replace H:=jq (H.out.here hb);clear hb;clear x0 x1 x2 x3 x4 x5 x6 x7 x8 x9 x10
  have x0:=H.out.c 0 0 rfl rfl;have x1:=H.out.c 0 1 rfl rfl;have x2:=H.out.c 0 2 rfl rfl;have x3:=H.out.c 0 3 rfl rfl;have x4:=H.out.c 0 4 rfl rfl;have x5:=H.out.c 0 5 rfl rfl;have x6:=H.out.c 0 6 rfl rfl;have x7:=H.out.c 0 7 rfl rfl;have x8:=H.out.c 0 8 rfl rfl;have x9:=H.out.c 0 9 rfl rfl;have x10:=H.out.c 0 10 rfl rfl
  cases n2 with
  |false=>
   go_wp2_with fail
   first|go_ret|skip
   rw[HPO.out];exact⟨Qp (by simp),H.out.bl⟩
  |true=>
   go_wp2_with fail
   refine(HN3.out _ H.out.pw).mono ?_;rintro e w1 ⟨rfl,hb⟩;replace H:=jq (H.out.here hb);clear hb;clear x0 x1 x2 x3 x4 x5 x6 x7 x8 x9 x10
   have x0:=H.out.c 0 0 rfl rfl;have x1:=H.out.c 0 1 rfl rfl;have x2:=H.out.c 0 2 rfl rfl;have x3:=H.out.c 0 3 rfl rfl;have x4:=H.out.c 0 4 rfl rfl;have x5:=H.out.c 0 5 rfl rfl;have x6:=H.out.c 0 6 rfl rfl;have x7:=H.out.c 0 7 rfl rfl;have x8:=H.out.c 0 8 rfl rfl;have x9:=H.out.c 0 9 rfl rfl;have x10:=H.out.c 0 10 rfl rfl
   cases n3 with
   |false=>
    go_wp2_with fail
    first|go_ret|skip
    rw[HPO.out];exact⟨Qp (by simp),H.out.bl⟩
   |true=>
    cases dd with
    |false=>
     obtain rfl:cd=13:=by rw[<-KD.out];rfl
     go_wp2_with fail
     first|go_ret|skip
     rw[HPO.out];exact⟨Qp (by simp),H.out.bl⟩
    |true=>
     obtain rfl:cd=0:=by rw[<-KD.out];rfl
     go_wp2_with fail
     refine(HC1.out _ H.out.po).mono ?_;rintro e w1 ⟨rfl,hb⟩;replace H:=jq (H.out.here hb);clear hb;clear x0 x1 x2 x3 x4 x5 x6 x7 x8 x9 x10
     have x0:=H.out.c 0 0 rfl rfl;have x1:=H.out.c 0 1 rfl rfl;have x2:=H.out.c 0 2 rfl rfl;have x3:=H.out.c 0 3 rfl rfl;have x4:=H.out.c 0 4 rfl rfl;have x5:=H.out.c 0 5 rfl rfl;have x6:=H.out.c 0 6 rfl rfl;have x7:=H.out.c 0 7 rfl rfl;have x8:=H.out.c 0 8 rfl rfl;have x9:=H.out.c 0 9 rfl rfl;have x10:=H.out.c 0 10 rfl rfl
     cases o1 with
     |false=>
      obtain rfl:c1=1:=by rw[<-K1.out];rfl
      go_wp2_with fail
      first|go_ret|skip
      rw[HPO.out];exact⟨Qp (by simp),H.out.bl⟩
     |true=>
      obtain rfl:c1=0:=by rw[<-K1.out];rfl
      go_wp2_with fail
      refine(HC2.out _ H.out.po).mono ?_;rintro e w1 ⟨rfl,hb⟩;replace H:=jq (H.out.here hb);clear hb;clear x0 x1 x2 x3 x4 x5 x6 x7 x8 x9 x10
      have x0:=H.out.c 0 0 rfl rfl;have x1:=H.out.c 0 1 rfl rfl;have x2:=H.out.c 0 2 rfl rfl;have x3:=H.out.c 0 3 rfl rfl;have x4:=H.out.c 0 4 rfl rfl;have x5:=H.out.c 0 5 rfl rfl;have x6:=H.out.c 0 6 rfl rfl;have x7:=H.out.c 0 7 rfl rfl;have x8:=H.out.c 0 8 rfl rfl;have x9:=H.out.c 0 9 rfl rfl;have x10:=H.out.c 0 10 rfl rfl
      cases o2 with
      |false=>
       obtain rfl:c2=1:=by rw[<-K2.out];rfl
       go_wp2_with fail
       first|go_ret|skip
       rw[HPO.out];exact⟨Qp (by simp),H.out.bl⟩
      |true=>
       obtain rfl:c2=0:=by rw[<-K2.out];rfl
       go_wp2_with fail
       refine(HC3.out _ H.out.po).mono ?_;rintro e w1 ⟨rfl,hb⟩;replace H:=jq (H.out.here hb);clear hb;clear x0 x1 x2 x3 x4 x5 x6 x7 x8 x9 x10
       have x0:=H.out.c 0 0 rfl rfl;have x1:=H.out.c 0 1 rfl rfl;have x2:=H.out.c 0 2 rfl rfl;have x3:=H.out.c 0 3 rfl rfl;have x4:=H.out.c 0 4 rfl rfl;have x5:=H.out.c 0 5 rfl rfl;have x6:=H.out.c 0 6 rfl rfl;have x7:=H.out.c 0 7 rfl rfl;have x8:=H.out.c 0 8 rfl rfl;have x9:=H.out.c 0 9 rfl rfl;have x10:=H.out.c 0 10 rfl rfl
       cases o3 with
       |false=>
        obtain rfl:c3=1:=by rw[<-K3.out];rfl
        go_wp2_with fail
        first|go_ret|skip
        rw[HPO.out];exact⟨Qp (by simp),H.out.bl⟩
       |true=>
        obtain rfl:c3=0:=by rw[<-K3.out];rfl
        go_upto_region 8 with (fail)
        go_cut [48] (fun s wc=>s=.bool (r1||r2||r3||r4)/\Hid (Kp w [(w.1.size,#[.string ⟨m.cause.toArray⟩,.int .i64 m.day,.string ⟨m.inst.toArray⟩,.string ⟨m.other.toArray⟩,.string ⟨m.ratio.n.toArray⟩,.string ⟨m.ratio.d.toArray⟩,.string ⟨m.share.n.toArray⟩,.string ⟨m.share.d.toArray⟩,.string ⟨m.price.n.toArray⟩,.string ⟨m.price.d.toArray⟩,.bool m.keep],28)] wc))
        case first=>
         clear x0 x1 x2 x3 x10 HPO HWD HN1 HN2 HN3 HC1 HC2 HC3 K1 K2 K3 KD
         rcases V1.out with rfl|rfl|rfl
         all_goals first
         |have e:r1=true:=by rw[<-E1.out];rfl
          subst e
         |have e:r1=false:=by rw[<-E1.out];rfl
          subst e
          rcases V2.out with rfl|rfl|rfl
          all_goals first
          |have e:r2=true:=by rw[<-E2.out];rfl
           subst e
          |have e:r2=false:=by rw[<-E2.out];rfl
           subst e
           rcases V3.out with rfl|rfl|rfl
           all_goals first
           |have e:r3=true:=by rw[<-E3.out];rfl
            subst e
           |have e:r3=false:=by rw[<-E3.out];rfl
            subst e
            rcases V4.out with rfl|rfl|rfl
            all_goals first
            |have e:r4=true:=by rw[<-E4.out];rfl
             subst e
            |have e:r4=false:=by rw[<-E4.out];rfl
             subst e
             first
             |(go_region_held3 (fun w'=>w'.cell? ⟨w.1.size,4,none⟩=some (.string ⟨m.ratio.n.toArray⟩)/\w'.cell? ⟨w.1.size,5,none⟩=some (.string ⟨m.ratio.d.toArray⟩)/\w'.cell? ⟨w.1.size,6,none⟩=some (.string ⟨m.share.n.toArray⟩)/\w'.cell? ⟨w.1.size,7,none⟩=some (.string ⟨m.share.d.toArray⟩)/\w'.cell? ⟨w.1.size,8,none⟩=some (.string ⟨m.price.n.toArray⟩)/\w'.cell? ⟨w.1.size,9,none⟩=some (.string ⟨m.price.d.toArray⟩)) (first|exact ka|exact kb|exact kc|exact kd|exact ke|go_keep)
              (first
                |(go_at_call_of 44 (Value.agg #[.string ⟨m.ratio.n.toArray⟩,.string ⟨m.ratio.d.toArray⟩]);refine(HS1.out _ H.out.drew.pw).mono ?_;rintro e w2 ⟨rfl,hb2⟩;have ha:Below w1.1.size w1 w2:=(Below.refl _ w1).drew.trans hb2;have ka:=And.intro ((H.out.here ha).c 0 4 rfl rfl) (And.intro ((H.out.here ha).c 0 5 rfl rfl) (And.intro ((H.out.here ha).c 0 6 rfl rfl) (And.intro ((H.out.here ha).c 0 7 rfl rfl) (And.intro ((H.out.here ha).c 0 8 rfl rfl) ((H.out.here ha).c 0 9 rfl rfl))))))
                |(go_at_call_of 44 (Value.agg #[.string ⟨m.share.n.toArray⟩,.string ⟨m.share.d.toArray⟩]);refine(HS2.out _ (H.out.here ha).pw).mono ?_;rintro e w3 ⟨rfl,hb3⟩;have hbb:Below w1.1.size w1 w3:=ha.trans (hb3.mono ha.size);have kb:=And.intro ((H.out.here hbb).c 0 4 rfl rfl) (And.intro ((H.out.here hbb).c 0 5 rfl rfl) (And.intro ((H.out.here hbb).c 0 6 rfl rfl) (And.intro ((H.out.here hbb).c 0 7 rfl rfl) (And.intro ((H.out.here hbb).c 0 8 rfl rfl) ((H.out.here hbb).c 0 9 rfl rfl))))))
                |(go_at_call 46;refine(HO1.out _ (H.out.here hbb).pw).mono ?_;rintro e w4 ⟨rfl,hb4⟩;have hcc:Below w1.1.size w1 w4:=hbb.trans (hb4.mono hbb.size);have kc:=And.intro ((H.out.here hcc).c 0 4 rfl rfl) (And.intro ((H.out.here hcc).c 0 5 rfl rfl) (And.intro ((H.out.here hcc).c 0 6 rfl rfl) (And.intro ((H.out.here hcc).c 0 7 rfl rfl) (And.intro ((H.out.here hcc).c 0 8 rfl rfl) ((H.out.here hcc).c 0 9 rfl rfl))))))
                |(go_at_call 45;refine(HCM.out _ (H.out.here hcc).po).mono ?_;rintro e w5 ⟨rfl,hb5⟩;have hdd:Below w1.1.size w1 w5:=hcc.trans (hb5.mono hcc.size);have kd:=And.intro ((H.out.here hdd).c 0 4 rfl rfl) (And.intro ((H.out.here hdd).c 0 5 rfl rfl) (And.intro ((H.out.here hdd).c 0 6 rfl rfl) (And.intro ((H.out.here hdd).c 0 7 rfl rfl) (And.intro ((H.out.here hdd).c 0 8 rfl rfl) ((H.out.here hdd).c 0 9 rfl rfl))))))
                |(go_at_call_of 44 (Value.agg #[.string ⟨m.price.n.toArray⟩,.string ⟨m.price.d.toArray⟩]);refine(HS3.out _ (H.out.here hdd).pw).mono ?_;rintro e w6 ⟨rfl,hb6⟩;have hee:Below w1.1.size w1 w6:=hdd.trans (hb6.mono hdd.size);have ke:=And.intro ((H.out.here hee).c 0 4 rfl rfl) (And.intro ((H.out.here hee).c 0 5 rfl rfl) (And.intro ((H.out.here hee).c 0 6 rfl rfl) (And.intro ((H.out.here hee).c 0 7 rfl rfl) (And.intro ((H.out.here hee).c 0 8 rfl rfl) ((H.out.here hee).c 0 9 rfl rfl))))))
              ))
             |fail
             all_goals
              go_wp2_with fail
              go_meet
              first|exact⟨by simp,H.out.here hee⟩
         all_goals
          first
          |(go_region_with
           (first
             |(go_at_call_of 44 (Value.agg #[.string ⟨m.ratio.n.toArray⟩,.string ⟨m.ratio.d.toArray⟩]);refine(HS1.out _ H.out.drew.pw).mono ?_;rintro e w2 ⟨rfl,hb2⟩;have ha:Below w1.1.size w1 w2:=(Below.refl _ w1).drew.trans hb2;have ya4:=(H.out.here ha).c 0 4 rfl rfl;have ya5:=(H.out.here ha).c 0 5 rfl rfl;have ya6:=(H.out.here ha).c 0 6 rfl rfl;have ya7:=(H.out.here ha).c 0 7 rfl rfl;have ya8:=(H.out.here ha).c 0 8 rfl rfl;have ya9:=(H.out.here ha).c 0 9 rfl rfl)
             |(go_at_call_of 44 (Value.agg #[.string ⟨m.share.n.toArray⟩,.string ⟨m.share.d.toArray⟩]);refine(HS2.out _ (H.out.here ha).pw).mono ?_;rintro e w3 ⟨rfl,hb3⟩;have hbb:Below w1.1.size w1 w3:=ha.trans (hb3.mono ha.size);have yb4:=(H.out.here hbb).c 0 4 rfl rfl;have yb5:=(H.out.here hbb).c 0 5 rfl rfl;have yb6:=(H.out.here hbb).c 0 6 rfl rfl;have yb7:=(H.out.here hbb).c 0 7 rfl rfl;have yb8:=(H.out.here hbb).c 0 8 rfl rfl;have yb9:=(H.out.here hbb).c 0 9 rfl rfl)
             |(go_at_call 46;refine(HO1.out _ (H.out.here hbb).pw).mono ?_;rintro e w4 ⟨rfl,hb4⟩;have hcc:Below w1.1.size w1 w4:=hbb.trans (hb4.mono hbb.size);have yc4:=(H.out.here hcc).c 0 4 rfl rfl;have yc5:=(H.out.here hcc).c 0 5 rfl rfl;have yc6:=(H.out.here hcc).c 0 6 rfl rfl;have yc7:=(H.out.here hcc).c 0 7 rfl rfl;have yc8:=(H.out.here hcc).c 0 8 rfl rfl;have yc9:=(H.out.here hcc).c 0 9 rfl rfl)
             |(go_at_call 45;refine(HCM.out _ (H.out.here hcc).po).mono ?_;rintro e w5 ⟨rfl,hb5⟩;have hdd:Below w1.1.size w1 w5:=hcc.trans (hb5.mono hcc.size);have yd4:=(H.out.here hdd).c 0 4 rfl rfl;have yd5:=(H.out.here hdd).c 0 5 rfl rfl;have yd6:=(H.out.here hdd).c 0 6 rfl rfl;have yd7:=(H.out.here hdd).c 0 7 rfl rfl;have yd8:=(H.out.here hdd).c 0 8 rfl rfl;have yd9:=(H.out.here hdd).c 0 9 rfl rfl)
             |(go_at_call_of 44 (Value.agg #[.string ⟨m.price.n.toArray⟩,.string ⟨m.price.d.toArray⟩]);refine(HS3.out _ (H.out.here hdd).pw).mono ?_;rintro e w6 ⟨rfl,hb6⟩;have hee:Below w1.1.size w1 w6:=hdd.trans (hb6.mono hdd.size);have ye4:=(H.out.here hee).c 0 4 rfl rfl;have ye5:=(H.out.here hee).c 0 5 rfl rfl;have ye6:=(H.out.here hee).c 0 6 rfl rfl;have ye7:=(H.out.here hee).c 0 7 rfl rfl;have ye8:=(H.out.here hee).c 0 8 rfl rfl;have ye9:=(H.out.here hee).c 0 9 rfl rfl)
           ))
          |fail
          all_goals
           go_wp2_with fail
           go_meet
           first|exact⟨by simp,H.out.here hee⟩|exact⟨by simp,H.out.here hdd⟩|exact⟨by simp,H.out.here hbb⟩|exact⟨by simp,H.out.here ha⟩
        case rest=>
        obtain⟨rfl,HW⟩:=hcut
        clear x0 x1 x2 x3 x4 x5 x6 x7 x8 x9 x10;clear H;have H:=HW;clear HW;have x0:=H.out.c 0 0 rfl rfl;have x1:=H.out.c 0 1 rfl rfl;have x2:=H.out.c 0 2 rfl rfl;have x3:=H.out.c 0 3 rfl rfl;have x4:=H.out.c 0 4 rfl rfl;have x5:=H.out.c 0 5 rfl rfl;have x6:=H.out.c 0 6 rfl rfl;have x7:=H.out.c 0 7 rfl rfl;have x8:=H.out.c 0 8 rfl rfl;have x9:=H.out.c 0 9 rfl rfl;have x10:=H.out.c 0 10 rfl rfl;generalize hr:(r1||r2||r3||r4)=rr at*;clear hr
        cases rr with
        |true=>
         go_wp2_with fail
         first|go_ret|skip
         rw[HPO.out];exact⟨Qp (by simp),H.out.bl⟩
        |false=>
         clear HWD HN1 HN2 HN3 HC1 HC2 HC3 K1 K2 K3 KD HS1 HS2 HS3 HCM E1 E2 E3 E4 V1 V2 V3 V4 x0 x1 x4 x5 x8 x9;generalize hkp:m.keep=kp at*;have HKP:=jq hkp;clear hkp
         cases kp with
         |true=>
          cases he:(m.other==m.inst) with
          |true=>
           go_wp2_with fail
           first|go_ret|skip
           rw[HPO.out];exact⟨Qp (by simp[he]),H.out.bl⟩
          |false=>
           go_wp2_with fail
           first
           |(go_region_with (fail))
           |fail
           all_goals
            go_wp2_with fail
            first|go_ret|skip
            rw[HPO.out];exact⟨Qp (by simp[he]),(H.out.here (Below.refl _ _).drew).bl⟩
         |false=>
          cases hb1:(m.share.n==one.n)<;>cases hb2:(m.share.d==one.d)
          all_goals
           go_wp2_with fail
           first
           |(go_region_held3 (fun w'=>w'.cell? ⟨w.1.size,6,none⟩=some (.string ⟨m.share.n.toArray⟩)/\w'.cell? ⟨w.1.size,7,none⟩=some (.string ⟨m.share.d.toArray⟩)/\w'.cell? ⟨w.1.size,10,none⟩=some (.bool false)) (first|exact ka|go_keep)
            (first
              |(go_at_call 46;refine(HO1.out _ H.out.drew.pw).mono ?_;rintro e w4 ⟨rfl,hb4⟩;have ha:Below wc.1.size wc w4:=(Below.refl _ wc).drew.trans hb4;have ka:=And.intro ((H.out.here ha).c 0 6 rfl rfl) (And.intro ((H.out.here ha).c 0 7 rfl rfl) ((H.out.here ha).c 0 10 rfl rfl)))))
           |fail
           all_goals
            go_wp2_with fail
            first|go_ret|skip
            rw[HPO.out];exact⟨Qp (by simp[hb1,hb2]),(H.out.here ha).bl⟩
end
section
attribute [local go_sem ↓] Go.wp_at_zero Go.wp_at_succ
structure Mp.Bad (m:Mp):Prop where
 bad:(QG m.cause&&QG m.inst&&QG m.other)=false
 d1: -9223372036854775808<=m.day
 d2:m.day<=9223372036854775807
theorem Mp.Sz.more{L K:Nat}{m:Mp}(h:m.Sz L)(hK:L<=K):m.Sz K:=⟨Nat.le_trans h.cause hK,Nat.le_trans h.inst hK,Nat.le_trans h.other hK,h.ratio.more hK,h.share.more hK,h.price.more hK,h.d1,h.d2⟩
theorem Mp.Bad.c{m:Mp}(h:m.Bad):JE m=23:=by
 unfold JE;rw[h.bad];rfl
theorem Zhw(m:Mp)(hm:m.Bad):Xb 10 #[MpV m] (.int .i64 (JE m)):=by
 intro w hp;rw[hm.c];have H:=jq ((Kp.start hp).new w.1.size rfl #[.string ⟨m.cause.toArray⟩,.int .i64 m.day,.string ⟨m.inst.toArray⟩,.string ⟨m.other.toArray⟩,.string ⟨m.ratio.n.toArray⟩,.string ⟨m.ratio.d.toArray⟩,.string ⟨m.share.n.toArray⟩,.string ⟨m.share.d.toArray⟩,.string ⟨m.price.n.toArray⟩,.string ⟨m.price.d.toArray⟩,.bool m.keep] 28);have HWD:=jq (Zcz m.day hm.d1 hm.d2);have HN1:=jq (Vc m.cause);have HN2:=jq (Vc m.inst);have HN3:=jq (Vc m.other);have hb:=hm.bad;generalize (if XP m.day=true then(0:Int) else 13)=cd at*;generalize wkd m.day=wk at*;generalize QG m.cause=n1 at *; generalize QG m.inst=n2 at *; generalize QG m.other=n3 at*;have eA:(mpA m).toArray=#[.string ⟨m.cause.toArray⟩,.int .i64 m.day,.string ⟨m.inst.toArray⟩,.string ⟨m.other.toArray⟩,.string ⟨m.ratio.n.toArray⟩,.string ⟨m.ratio.d.toArray⟩,.string ⟨m.share.n.toArray⟩,.string ⟨m.share.d.toArray⟩,.string ⟨m.price.n.toArray⟩,.string ⟨m.price.d.toArray⟩,.bool m.keep]:=rfl;unfold MpV;rw[eA];clear eA hm hp;unfold S at*
 have z0:(w.alloc (.cells #[.string ⟨m.cause.toArray⟩,.int .i64 m.day,.string ⟨m.inst.toArray⟩,.string ⟨m.other.toArray⟩,.string ⟨m.ratio.n.toArray⟩,.string ⟨m.ratio.d.toArray⟩,.string ⟨m.share.n.toArray⟩,.string ⟨m.share.d.toArray⟩,.string ⟨m.price.n.toArray⟩,.string ⟨m.price.d.toArray⟩,.bool m.keep] 28)).cell? ⟨w.1.size,1,none⟩=some (.int .i64 m.day):=H.out.c 0 1 rfl rfl
 have hcase:n1=false\/(n1=true/\n2=false)\/(n1=true/\n2=true/\n3=false):=by
  cases n1<;>cases n2<;>cases n3<;>simp_all
 clear hb
 rcases hcase with rfl|⟨rfl,rfl⟩|⟨rfl,rfl,rfl⟩
 ·go_enter Tryz.func10,Tryz.ntmps10
  go_wp2_with fail
  generalize w.alloc _=W at*;refine(HWD.out _ H.out.pw).mono ?_;rintro e w1 ⟨rfl,hb1⟩;have H1:=jq (H.out.here hb1);clear hb1 z0;have c0:=H1.out.c 0 0 rfl rfl;have c2:=H1.out.c 0 2 rfl rfl;have c3:=H1.out.c 0 3 rfl rfl;go_wp2_with fail
  refine(HN1.out _ H1.out.pw).mono ?_;rintro e w2 ⟨rfl,hb2⟩;have H2:=jq (H1.out.here hb2);clear hb2 c0 c2 c3;go_wp2_with fail
  first|go_ret|skip
  exact⟨rfl,H2.out.bl⟩
 ·go_enter Tryz.func10,Tryz.ntmps10
  go_wp2_with fail
  generalize w.alloc _=W at*;refine(HWD.out _ H.out.pw).mono ?_;rintro e w1 ⟨rfl,hb1⟩;have H1:=jq (H.out.here hb1);clear hb1 z0;have c0:=H1.out.c 0 0 rfl rfl;have c2:=H1.out.c 0 2 rfl rfl;have c3:=H1.out.c 0 3 rfl rfl;go_wp2_with fail
  refine(HN1.out _ H1.out.pw).mono ?_;rintro e w2 ⟨rfl,hb2⟩;have H2:=jq (H1.out.here hb2);clear hb2 c0 c2 c3;have c2:=H2.out.c 0 2 rfl rfl;have c3:=H2.out.c 0 3 rfl rfl;go_wp2_with fail
  refine(HN2.out _ H2.out.pw).mono ?_;rintro e w3 ⟨rfl,hb3⟩;have H3:=jq (H2.out.here hb3);clear hb3 c2 c3;go_wp2_with fail
  first|go_ret|skip
  exact⟨rfl,H3.out.bl⟩
 ·go_enter Tryz.func10,Tryz.ntmps10
  go_wp2_with fail
  generalize w.alloc _=W at*;refine(HWD.out _ H.out.pw).mono ?_;rintro e w1 ⟨rfl,hb1⟩;have H1:=jq (H.out.here hb1);clear hb1 z0;have c0:=H1.out.c 0 0 rfl rfl;have c2:=H1.out.c 0 2 rfl rfl;have c3:=H1.out.c 0 3 rfl rfl;go_wp2_with fail
  refine(HN1.out _ H1.out.pw).mono ?_;rintro e w2 ⟨rfl,hb2⟩;have H2:=jq (H1.out.here hb2);clear hb2 c0 c2 c3;have c2:=H2.out.c 0 2 rfl rfl;have c3:=H2.out.c 0 3 rfl rfl;go_wp2_with fail
  refine(HN2.out _ H2.out.pw).mono ?_;rintro e w3 ⟨rfl,hb3⟩;have H3:=jq (H2.out.here hb3);clear hb3 c2 c3;have c3:=H3.out.c 0 3 rfl rfl;go_wp2_with fail
  refine(HN3.out _ H3.out.pw).mono ?_;rintro e w4 ⟨rfl,hb4⟩;have H4:=jq (H3.out.here hb4);clear hb4 c3;go_wp2_with fail
  first|go_ret|skip
  exact⟨rfl,H4.out.bl⟩
theorem Zdq(m:Mp)(h:m.Sz 5000\/m.Bad):Xb 10 #[MpV m] (.int .i64 (JE m)):=h.elim (Zhu m) (Zhw m)
end
section
def Jf(f:Fr):Bool:=decide (10<f.n.length\/10<f.d.length)
theorem Zfa{f:Fr}(h:Jf f=false):f.Sz 10:=by
 unfold Jf at h;simp at h;exact⟨by omega,by omega⟩
theorem Zaq(f:Fr)(w:World)(_h1:f.n.length<=maxLen)(_h2:f.d.length<=maxLen):Calls Tryz.prog 54 #[QC f] w fun e w'=>e=.returned (.bool (Jf f))/\Below w.1.size w w':=by
 obtain⟨x0,x1⟩:=(FrB.new w f).cells
 have hbA:Below w.1.size w (w.alloc (.cells #[.string ⟨f.n.toArray⟩,.string ⟨f.d.toArray⟩] 26)):=(Below.refl _ _).alloc (Nat.le_refl _) _;have HBA:=jq hbA;clear hbA _h1 _h2;unfold QC S
 by_cases ha:10<f.n.length
 ·have HD:=jq (show Jf f=true by simp[Jf,ha]);rw[HD.out];go_enter Tryz.func54,Tryz.ntmps54
  go_wp2_with fail
  go_ret
  exact⟨rfl,HBA.out⟩
 ·have hdec:decide (10<f.n.length)=false:=by simpa using ha
  have HD:=jq (show Jf f=decide (10<f.d.length) by simp[Jf,ha]);rw[HD.out];go_enter Tryz.func54,Tryz.ntmps54
  go_wp2_with fail
  go_ret
  refine⟨?_,HBA.out⟩;refine Qr ?_;rw[Bool.eq_iff_iff];simp
  omega
def ZlU(m:Mp):Int:=wrap64 (wrap64 ((m.cause.length:Int)+(m.inst.length:Int))+(m.other.length:Int))
def ZcA(m:Mp):Bool:=decide (72<ZlU m)||(Jf m.ratio||Jf m.share||Jf m.price)
theorem Zin(n:Int)(h: -9223372036854775808<=n/\n<=9223372036854775807):wrap64 n=n:=by unfold wrap64;omega
theorem Za6{s:List UInt8}(h:16<s.length):QG s=false:=by
 unfold QG;rw[decide_eq_false (show ¬s.length<=16 by omega)];simp
structure Mp.Max (m:Mp):Prop where
 cause:m.cause.length<=maxLen
 inst:m.inst.length<=maxLen
 other:m.other.length<=maxLen
 rn:m.ratio.n.length<=maxLen
 rd:m.ratio.d.length<=maxLen
 sn:m.share.n.length<=maxLen
 sd:m.share.d.length<=maxLen
 pn:m.price.n.length<=maxLen
 pd:m.price.d.length<=maxLen
theorem ZkB{m:Mp}(h:ZcA m=false)(h1: -9223372036854775808<=m.day)(h2:m.day<=9223372036854775807):m.ratio.Sz 10/\m.share.Sz 10/\m.price.Sz 10/\(m.Sz 72\/m.Bad):=by
 unfold ZcA at h;simp only[Bool.or_eq_false_iff,decide_eq_false_iff_not] at h;obtain⟨a,⟨b,c⟩,d⟩:=h
 have hb:=Zfa b;have hc:=Zfa c;have hd:=Zfa d;refine⟨hb,hc,hd,?_⟩
 by_cases hs:m.cause.length+m.inst.length+m.other.length<=9223372036854775807
 ·unfold ZlU at a;rw[Zin ((m.cause.length:Int)+(m.inst.length:Int)) (by omega),Zin _ (by omega)] at a;exact .inl ⟨by omega,by omega,by omega,hb.more (by omega),hc.more (by omega),hd.more (by omega),h1,h2⟩
 ·refine .inr ⟨?_,h1,h2⟩
  by_cases g1:16<m.cause.length
  ·rw[Za6 g1];rfl
  ·by_cases g2:16<m.inst.length
   ·rw[Za6 g2];simp
   ·rw[Za6 (s:=m.other) (by omega)];simp
theorem Zhx(m:Mp)(w:World)(hm:m.Max):Calls Tryz.prog 13 #[MpV m] w fun e w'=>e=.returned (.bool (ZcA m))/\Below w.1.size w w':=by
 have H:=jq ((Below.refl w.1.size w).alloc (Nat.le_refl _) (.cells #[.string ⟨m.cause.toArray⟩,.int .i64 m.day,.string ⟨m.inst.toArray⟩,.string ⟨m.other.toArray⟩,.string ⟨m.ratio.n.toArray⟩,.string ⟨m.ratio.d.toArray⟩,.string ⟨m.share.n.toArray⟩,.string ⟨m.share.d.toArray⟩,.string ⟨m.price.n.toArray⟩,.string ⟨m.price.d.toArray⟩,.bool m.keep] 28));have HWS:=jq (show(w.alloc (.cells #[.string ⟨m.cause.toArray⟩,.int .i64 m.day,.string ⟨m.inst.toArray⟩,.string ⟨m.other.toArray⟩,.string ⟨m.ratio.n.toArray⟩,.string ⟨m.ratio.d.toArray⟩,.string ⟨m.share.n.toArray⟩,.string ⟨m.share.d.toArray⟩,.string ⟨m.price.n.toArray⟩,.string ⟨m.price.d.toArray⟩,.bool m.keep] 28)).heap.size=w.1.size+1 by simp);have HLM:=jq (show ZcA m=(decide (72<ZlU m)||(Jf m.ratio||Jf m.share||Jf m.price)) from rfl)
 have HC:=jq (fun(W:World) (A:Option Addr) (c:Nat) (h:Frs W W.1.size A 3 [m.ratio,m.share,m.price])=>Zd9 54 Jf A 3 c [m.ratio,m.share,m.price] W (enters_of Tryz.func54 (by kernel_rfl) rfl) (fun W x hx _=>by
  simp only[List.mem_cons,List.mem_nil_iff,or_false] at hx
  rcases hx with rfl|rfl|rfl
  ·exact Zaq _ W hm.rn hm.rd
  ·exact Zaq _ W hm.sn hm.sd
  ·exact Zaq _ W hm.pn hm.pd) h (by omega))
 rw[show[m.ratio,m.share,m.price].any Jf=(Jf m.ratio||Jf m.share||Jf m.price) by simp[Bool.or_assoc]] at HC;have HSL:=jq (fun W=>Sl.lit (enc:=F2) (k:=2) W #[.string ⟨m.ratio.n.toArray⟩,.string ⟨m.ratio.d.toArray⟩,.string ⟨m.share.n.toArray⟩,.string ⟨m.share.d.toArray⟩,.string ⟨m.price.n.toArray⟩,.string ⟨m.price.d.toArray⟩] 26 [m.ratio,m.share,m.price] rfl Zhr);generalize ZcA m=lg at*;generalize (Jf m.ratio||Jf m.share||Jf m.price)=lf at*;clear hm;unfold MpV mpA S
 by_cases hb:72<ZlU m
 ·have hb2:(72:Int)<wrap64 (wrap64 ((m.cause.length:Int)+(m.inst.length:Int))+(m.other.length:Int)):=hb;rw[decide_eq_true hb,Bool.true_or] at HLM;clear hb;go_enter Tryz.func13,Tryz.ntmps13
  go_wp2_with fail
  go_ret
  exact⟨Qr HLM.out.symm,H.out⟩
 ·have hb2:¬(72:Int)<wrap64 (wrap64 ((m.cause.length:Int)+(m.inst.length:Int))+(m.other.length:Int)):=hb;rw[decide_eq_false hb,Bool.false_or] at HLM;clear hb;go_enter Tryz.func13,Tryz.ntmps13
  go_wp2_with fail
  generalize w.alloc _=W at*;have hsl:=HSL.out W;have hsl2:Frs (W.alloc (.cells #[.string ⟨m.ratio.n.toArray⟩,.string ⟨m.ratio.d.toArray⟩,.string ⟨m.share.n.toArray⟩,.string ⟨m.share.d.toArray⟩,.string ⟨m.price.n.toArray⟩,.string ⟨m.price.d.toArray⟩] 26)) (W.alloc (.cells #[.string ⟨m.ratio.n.toArray⟩,.string ⟨m.ratio.d.toArray⟩,.string ⟨m.share.n.toArray⟩,.string ⟨m.share.d.toArray⟩,.string ⟨m.price.n.toArray⟩,.string ⟨m.price.d.toArray⟩] 26)).heap.size (some ⟨w.1.size+1,0,none⟩) 3 [m.ratio,m.share,m.price]:=by rw[<-HWS.out];exact hsl.more (by simp)
  refine(HC.out _ _ _ hsl2).mono ?_;rintro e w1 ⟨rfl,hb1⟩;clear hsl hsl2;go_wp2_with fail
  go_ret
  exact⟨Qr HLM.out.symm,H.out.trans ((((Below.refl _ W).alloc (Nat.le_refl _) _).trans (hb1.mono (by simp))).mono H.out.size)⟩
def JR(x:Lot):Bool:=decide (13<x.q.length)||decide (13<x.c.length)||decide (13<x.u.length)||decide (40<x.id.length)||decide (40<x.inst.length)
def Zgh(xs:List Lot):Bool:=(decide (12<xs.length)&&decide (xs.length<999))||decide (1002<xs.length)||xs.any JR
structure Lot.Max (x:Lot):Prop where
 id:x.id.length<=maxLen
 inst:x.inst.length<=maxLen
 q:x.q.length<=maxLen
 c:x.c.length<=maxLen
 u:x.u.length<=maxLen
theorem Zca(a:List UInt8)(w:World):Calls Tryz.prog 122 #[S a] w fun e w'=>e=.returned (.bool (decide (13<a.length)))/\w=w':=by
 unfold S;go_enter Tryz.func122,Tryz.ntmps122
 go_wp2_with fail
 go_ret
 refine⟨Qr ?_,rfl⟩;rw[Bool.eq_iff_iff];simp
 omega
theorem ZaT(x:Lot)(w:World):Calls Tryz.prog 70 #[XY x] w fun e w'=>e=.returned (.bool (JR x))/\Below w.1.size w w':=by
 have HB:=jq ((Below.refl w.1.size w).alloc (Nat.le_refl _) (.cells #[.string ⟨x.id.toArray⟩,.string ⟨x.inst.toArray⟩,.int .i64 x.acq,.int .i64 x.opn,.string ⟨x.q.toArray⟩,.string ⟨x.c.toArray⟩,.string ⟨x.u.toArray⟩] 54));have HQ:=jq (fun W=>Zca x.q W);have HC:=jq (fun W=>Zca x.c W);have HU:=jq (fun W=>Zca x.u W);have HG:=jq (show JR x=(decide (13<x.q.length)||decide (13<x.c.length)||decide (13<x.u.length)||decide (40<x.id.length)||decide (40<x.inst.length)) from rfl);generalize JR x=gr at*;unfold XY S;unfold S at*
 by_cases h1:13<x.q.length
 ·rw[decide_eq_true h1] at HQ HG;go_enter Tryz.func70,Tryz.ntmps70
  go_wp2_with fail
  refine(HQ.out _).mono ?_;rintro e w1 ⟨rfl,rfl⟩;go_wp2_with fail
  go_ret
  exact⟨Qr (by rw[HG.out];simp),HB.out⟩
 ·rw[decide_eq_false h1] at HQ HG
  by_cases h2:13<x.c.length
  ·rw[decide_eq_true h2] at HC HG;go_enter Tryz.func70,Tryz.ntmps70
   go_wp2_with fail
   refine(HQ.out _).mono ?_;rintro e w1 ⟨rfl,rfl⟩;go_wp2_with fail
   refine(HC.out _).mono ?_;rintro e w1 ⟨rfl,rfl⟩;go_wp2_with fail
   go_ret
   exact⟨Qr (by rw[HG.out];simp),HB.out⟩
  ·rw[decide_eq_false h2] at HC HG
   by_cases h3:13<x.u.length
   ·rw[decide_eq_true h3] at HU HG;go_enter Tryz.func70,Tryz.ntmps70
    go_wp2_with fail
    refine(HQ.out _).mono ?_;rintro e w1 ⟨rfl,rfl⟩;go_wp2_with fail
    refine(HC.out _).mono ?_;rintro e w1 ⟨rfl,rfl⟩;go_wp2_with fail
    refine(HU.out _).mono ?_;rintro e w1 ⟨rfl,rfl⟩;go_wp2_with fail
    go_ret
    exact⟨Qr (by rw[HG.out];simp),HB.out⟩
   ·rw[decide_eq_false h3] at HU HG;clear h1 h2 h3
    by_cases h4:40<x.id.length
    ·rw[decide_eq_true h4] at HG;have h4':(40:Int)<(x.id.length:Int):=by omega
     clear h4;go_enter Tryz.func70,Tryz.ntmps70
     go_wp2_with fail
     refine(HQ.out _).mono ?_;rintro e w1 ⟨rfl,rfl⟩;go_wp2_with fail
     refine(HC.out _).mono ?_;rintro e w1 ⟨rfl,rfl⟩;go_wp2_with fail
     refine(HU.out _).mono ?_;rintro e w1 ⟨rfl,rfl⟩;go_wp2_with fail
     go_ret
     exact⟨Qr (by rw[HG.out];simp),HB.out⟩
    ·rw[decide_eq_false h4] at HG;have h4':¬(40:Int)<(x.id.length:Int):=by omega
     clear h4
     by_cases h5:40<x.inst.length
     ·rw[decide_eq_true h5] at HG;have h5':(40:Int)<(x.inst.length:Int):=by omega
      clear h5;go_enter Tryz.func70,Tryz.ntmps70
      go_wp2_with fail
      refine(HQ.out _).mono ?_;rintro e w1 ⟨rfl,rfl⟩;go_wp2_with fail
      refine(HC.out _).mono ?_;rintro e w1 ⟨rfl,rfl⟩;go_wp2_with fail
      refine(HU.out _).mono ?_;rintro e w1 ⟨rfl,rfl⟩;go_wp2_with fail
      go_ret
      exact⟨Qr (by rw[HG.out];simp),HB.out⟩
     ·rw[decide_eq_false h5] at HG;have h5':¬(40:Int)<(x.inst.length:Int):=by omega
      clear h5;go_enter Tryz.func70,Tryz.ntmps70
      go_wp2_with fail
      refine(HQ.out _).mono ?_;rintro e w1 ⟨rfl,rfl⟩;go_wp2_with fail
      refine(HC.out _).mono ?_;rintro e w1 ⟨rfl,rfl⟩;go_wp2_with fail
      refine(HU.out _).mono ?_;rintro e w1 ⟨rfl,rfl⟩;go_wp2_with fail
      go_ret
      exact⟨Qr (by rw[HG.out];simp;omega),HB.out⟩
theorem Zgi{p:Lot->Bool}{xs:List Lot}{k:Nat}{x:Lot}(h:xs[k]?=some x):(xs.take (k+1)).any p=((xs.take k).any p||p x):=by
 obtain⟨hk,rfl⟩:=List.getElem?_eq_some_iff.1 h
 rw[List.take_succ_eq_append_getElem hk,List.any_append];simp
theorem Zhy(A:Option Addr)(n c:Nat)(xs:List Lot)(w:World)(hs:QU w w.1.size A n xs)(hn:n<=9223372036854775807):Calls Tryz.prog 22 #[.slice A n c] w fun e w'=>e=.returned (.bool (Zgh xs))/\Below w.1.size w w':=by
 have HS:=jq hs;have hnx:=hs.1;have HG:=jq (show Zgh xs=((decide (12<n)&&decide (n<999))||decide (1002<n)||xs.any JR) by rw[hnx];rfl);have HNX:=jq hnx;generalize Zgh xs=gr at*;clear hs hnx
 by_cases h1:12<n
 ·by_cases h2:n<999
  ·rw[decide_eq_true h1,decide_eq_true h2] at HG;have a1:(12:Int)<(n:Int):=by omega
   have a2:(n:Int)<999:=by omega
   clear h1 h2;go_enter Tryz.func22,Tryz.ntmps22
   go_wp2_with fail
   go_ret
   exact⟨Qr (by rw[HG.out];simp),Below.refl _ _⟩
  ·rw[decide_eq_true h1,decide_eq_false h2] at HG
   by_cases h3:1002<n
   ·rw[decide_eq_true h3] at HG;have a1:(12:Int)<(n:Int):=by omega
    have a2:¬(n:Int)<999:=by omega
    have a3:(1002:Int)<(n:Int):=by omega
    clear h1 h2 h3;go_enter Tryz.func22,Tryz.ntmps22
    go_wp2_with fail
    go_ret
    exact⟨Qr (by rw[HG.out];simp),Below.refl _ _⟩
   ·rw[decide_eq_false h3] at HG;have a1:(12:Int)<(n:Int):=by omega
    have a2:¬(n:Int)<999:=by omega
    have a3:¬(1002:Int)<(n:Int):=by omega
    clear h1 h2 h3;go_enter Tryz.func22,Tryz.ntmps22
    go_wp2_with fail
    go_loopw [3] (fun i wr=>∃k:Nat,k<=n/\i=.int .i64 k/\Hid ((xs.take k).any JR=false)/\Hid (Below w.1.size w wr)) (fun i _=>n-(intOf i).toNat)
    case atStart=>exact⟨0,Nat.zero_le _,rfl,(show _=_ by simp),Below.refl _ _⟩
    case round=>
     obtain⟨k,hk,rfl,HAN,HBR⟩:=hrel
     by_cases hlt:k<n
     ·obtain⟨b,off,x,rfl,hb,hx,d0,d1,d2,d3,d4,d5,d6⟩:=(HS.out.here HBR.out).lot7 hlt
      have HAT:=jq (Zgi (p:=JR) hx);have HMX:=jq (List.mem_of_getElem? hx);clear hx;have HGO:=jq (ZaT x wr);have HGX:=jq (show JR x=true->xs.any JR=true from fun h=>List.any_eq_true.2 ⟨x,HMX.out,h⟩);generalize JR x=gx at*;unfold XY S at HGO
      cases gx with
      |true=>
       go_wp2_with fail
       refine HGO.out.mono ?_;rintro e w1 ⟨rfl,hb1⟩;go_wp2_with fail
       go_ret
       exact⟨Qr (by have hg:=HGX.out;simp only[forall_const] at hg;rw[HG.out,hg];simp),HBR.out.trans (hb1.mono HBR.out.size)⟩
      |false=>
       go_wp2_with fail
       refine HGO.out.mono ?_;rintro e w1 ⟨rfl,hb1⟩;go_wp2_with fail
       go_roundw
       case rel=>exact⟨k+1,by omega,by go_num,(show _=_ by rw[HAT.out,HAN.out];rfl),HBR.out.trans (hb1.mono HBR.out.size)⟩
       case measure=>simp[intOf];omega
     ·have HTK:=jq (show xs.any JR=false by have:=HAN.out;rwa [List.take_of_length_le (by have:=HNX.out;omega)] at this);go_wp2_with fail
      go_ret
      exact⟨Qr (by rw[HG.out,HTK.out];simp),HBR.out⟩
 ·rw[decide_eq_false h1] at HG;have h3:¬1002<n:=by omega
  rw[decide_eq_false h3] at HG;have a1:¬(12:Int)<(n:Int):=by omega
  have a3:¬(1002:Int)<(n:Int):=by omega
  clear h1 h3;go_enter Tryz.func22,Tryz.ntmps22
  go_wp2_with fail
  go_loopw [3] (fun i wr=>∃k:Nat,k<=n/\i=.int .i64 k/\Hid ((xs.take k).any JR=false)/\Hid (Below w.1.size w wr)) (fun i _=>n-(intOf i).toNat)
  case atStart=>exact⟨0,Nat.zero_le _,rfl,(show _=_ by simp),Below.refl _ _⟩
  case round=>
   obtain⟨k,hk,rfl,HAN,HBR⟩:=hrel
   by_cases hlt:k<n
   ·obtain⟨b,off,x,rfl,hb,hx,d0,d1,d2,d3,d4,d5,d6⟩:=(HS.out.here HBR.out).lot7 hlt
    have HAT:=jq (Zgi (p:=JR) hx);have HMX:=jq (List.mem_of_getElem? hx);clear hx;have HGO:=jq (ZaT x wr);have HGX:=jq (show JR x=true->xs.any JR=true from fun h=>List.any_eq_true.2 ⟨x,HMX.out,h⟩);generalize JR x=gx at*;unfold XY S at HGO
    cases gx with
    |true=>
     go_wp2_with fail
     refine HGO.out.mono ?_;rintro e w1 ⟨rfl,hb1⟩;go_wp2_with fail
     go_ret
     exact⟨Qr (by have hg:=HGX.out;simp only[forall_const] at hg;rw[HG.out,hg];simp),HBR.out.trans (hb1.mono HBR.out.size)⟩
    |false=>
     go_wp2_with fail
     refine HGO.out.mono ?_;rintro e w1 ⟨rfl,hb1⟩;go_wp2_with fail
     go_roundw
     case rel=>exact⟨k+1,by omega,by go_num,(show _=_ by rw[HAT.out,HAN.out];rfl),HBR.out.trans (hb1.mono HBR.out.size)⟩
     case measure=>simp[intOf];omega
   ·have HTK:=jq (show xs.any JR=false by have:=HAN.out;rwa [List.take_of_length_le (by have:=HNX.out;omega)] at this);go_wp2_with fail
    go_ret
    exact⟨Qr (by rw[HG.out,HTK.out];simp),HBR.out⟩
end
section
theorem Zgj(A:Option Addr)(n c:Nat)(xs:List Lot)(m:Mp)(w:World)(hs:QU w w.1.size A n xs)(hn:n<=9223372036854775807)(hm:m.Max):
 Calls Tryz.prog 6 #[.slice A n c,MpV m] w fun e w'=>e=.returned (.bool (Zgh xs||ZcA m))/\Below w.1.size w w':=by
 have H:=jq ((Below.refl w.1.size w).alloc (Nat.le_refl _) (.cells #[.string ⟨m.cause.toArray⟩,.int .i64 m.day,.string ⟨m.inst.toArray⟩,.string ⟨m.other.toArray⟩,.string ⟨m.ratio.n.toArray⟩,.string ⟨m.ratio.d.toArray⟩,.string ⟨m.share.n.toArray⟩,.string ⟨m.share.d.toArray⟩,.string ⟨m.price.n.toArray⟩,.string ⟨m.price.d.toArray⟩,.bool m.keep] 28));have HB:=jq (show BlkB (w.alloc (.cells #[.string ⟨m.cause.toArray⟩,.int .i64 m.day,.string ⟨m.inst.toArray⟩,.string ⟨m.other.toArray⟩,.string ⟨m.ratio.n.toArray⟩,.string ⟨m.ratio.d.toArray⟩,.string ⟨m.share.n.toArray⟩,.string ⟨m.share.d.toArray⟩,.string ⟨m.price.n.toArray⟩,.string ⟨m.price.d.toArray⟩,.bool m.keep] 28)) w.1.size #[.string ⟨m.cause.toArray⟩,.int .i64 m.day,.string ⟨m.inst.toArray⟩,.string ⟨m.other.toArray⟩,.string ⟨m.ratio.n.toArray⟩,.string ⟨m.ratio.d.toArray⟩,.string ⟨m.share.n.toArray⟩,.string ⟨m.share.d.toArray⟩,.string ⟨m.price.n.toArray⟩,.string ⟨m.price.d.toArray⟩,.bool m.keep] 28 from heap_alloc_new w _);have HGR:=jq (Zhy A n c xs (w.alloc (.cells #[.string ⟨m.cause.toArray⟩,.int .i64 m.day,.string ⟨m.inst.toArray⟩,.string ⟨m.other.toArray⟩,.string ⟨m.ratio.n.toArray⟩,.string ⟨m.ratio.d.toArray⟩,.string ⟨m.share.n.toArray⟩,.string ⟨m.share.d.toArray⟩,.string ⟨m.price.n.toArray⟩,.string ⟨m.price.d.toArray⟩,.bool m.keep] 28)) (hs.here H.out) hn);have HLO:=jq (fun W=>Zhx m W hm);generalize Zgh xs=gx at*;generalize ZcA m=lm at*;clear hs hn hm;unfold MpV mpA at*
 unfold S at*
 cases gx with
 |true=>
  go_enter Tryz.func6,Tryz.ntmps6
  go_wp2_with fail
  generalize w.alloc _=W at*;refine HGR.out.mono ?_;rintro e w1 ⟨rfl,hb⟩;go_wp2_with fail
  go_ret
  exact⟨Qr (Bool.true_or lm).symm,H.out.trans (hb.mono H.out.size)⟩
 |false=>
  go_enter Tryz.func6,Tryz.ntmps6
  go_wp2_with fail
  generalize w.alloc _=W at*;refine HGR.out.mono ?_;rintro e w1 ⟨rfl,hb⟩;have HB1:=jq (HB.out.here hb);have c0:=HB1.out.cell 0 rfl;have c1:=HB1.out.cell 1 rfl;have c2:=HB1.out.cell 2 rfl;have c3:=HB1.out.cell 3 rfl;have c4:=HB1.out.cell 4 rfl;have c5:=HB1.out.cell 5 rfl;have c6:=HB1.out.cell 6 rfl;have c7:=HB1.out.cell 7 rfl;have c8:=HB1.out.cell 8 rfl;have c9:=HB1.out.cell 9 rfl;have c10:=HB1.out.cell 10 rfl;go_wp2_with fail
  refine(HLO.out _).mono ?_;rintro e w2 ⟨rfl,hb2⟩;go_wp2_with fail
  go_ret
  exact⟨Qr (Bool.false_or lm).symm,H.out.trans ((hb.trans (hb2.mono hb.size)).mono H.out.size)⟩
end
section
attribute [local go_sem ↓] Go.wp_at_zero Go.wp_at_succ
theorem Zjr(A:Option Addr)(n c:Nat)(ls:List Lot)(m:Mp)(w:World)(hp:Env w)(hs:QU w w.1.size A n ls)(hl:∀x∈ls,x.Sz 50000)(hm:m.Sz 5000\/m.Bad)(hn:n<=1000000000):
 Calls Tryz.prog 24 #[.slice A n c,MpV m] w fun e w'=>e=.returned (.bool (decide (Xl ls=0)&&decide (JE m=0)))/\Below w.1.size w w':=by
 have H:=jq ((Kp.start hp).new w.1.size rfl #[.string ⟨m.cause.toArray⟩,.int .i64 m.day,.string ⟨m.inst.toArray⟩,.string ⟨m.other.toArray⟩,.string ⟨m.ratio.n.toArray⟩,.string ⟨m.ratio.d.toArray⟩,.string ⟨m.share.n.toArray⟩,.string ⟨m.share.d.toArray⟩,.string ⟨m.price.n.toArray⟩,.string ⟨m.price.d.toArray⟩,.bool m.keep] 28);have HCA:=jq (fun W (hb:Below w.1.size w W)=>ZbF A n c ls W (hp.here hb) (hs.here hb) hl hn);have HMC:=jq (fun W (hb:Below w.1.size w W)=>Zdq m hm W (hp.here hb));clear hp hs hl hn hm;generalize Xl ls=za at*;generalize JE m=zm at*;unfold MpV mpA at*
 unfold S at*
 by_cases ha:za=0
 ·have ha0:(za==0)=true:=by simp[ha]
  have hd:decide (za=0)=true:=by simp[ha]
  rw[hd];go_enter Tryz.func24,Tryz.ntmps24
  go_wp2_with fail
  generalize w.alloc _=W at*;refine(HCA.out _ H.out.bl).mono ?_;rintro e w1 ⟨rfl,hb⟩;have H1:=jq (H.out.here hb);clear H hb;have c0:=H1.out.c 0 0 rfl rfl;have c1:=H1.out.c 0 1 rfl rfl;have c2:=H1.out.c 0 2 rfl rfl;have c3:=H1.out.c 0 3 rfl rfl;have c4:=H1.out.c 0 4 rfl rfl;have c5:=H1.out.c 0 5 rfl rfl;have c6:=H1.out.c 0 6 rfl rfl;have c7:=H1.out.c 0 7 rfl rfl;have c8:=H1.out.c 0 8 rfl rfl;have c9:=H1.out.c 0 9 rfl rfl;have c10:=H1.out.c 0 10 rfl rfl;go_wp2_with fail
  refine(HMC.out _ H1.out.bl).mono ?_;rintro e w2 ⟨rfl,hb⟩;have HZ:=jq (show(zm==0)=decide (zm=0) from rfl);go_wp2_with fail
  go_ret
  exact⟨by simp[HZ.out],(H1.out.here hb).bl⟩
 ·have ha0:(za==0)=false:=by simp[ha]
  have hd:decide (za=0)=false:=by simp[ha]
  rw[hd];go_enter Tryz.func24,Tryz.ntmps24
  go_wp2_with fail
  generalize w.alloc _=W at*;refine(HCA.out _ H.out.bl).mono ?_;rintro e w1 ⟨rfl,hb⟩;go_wp2_with fail
  go_ret
  exact⟨by simp,(H.out.here hb).bl⟩
end
section
attribute [local go_sem ↓] Go.wp_at_zero Go.wp_at_succ
theorem Zfw(A A':Option Addr)(n c c':Nat)(xs:List Gain)(w:World)(h1:Gns w w.1.size A n xs)(h2:Gns w w.1.size A' n xs)(hn:n<=1000000):
 Calls Tryz.prog 51 #[.slice A n c,.slice A' n c'] w fun e w'=>e=.returned (.bool true)/\Below w.1.size w w':=by
 have H1:=jq h1;have H2:=jq h2;clear h1 h2;have hne:((n:Int) !=(n:Int))=false:=by simp
 go_enter Tryz.func51,Tryz.ntmps51
 go_wp2_with fail
 go_loopw [5,13] (fun _ j wr=>∃k:Nat,k<=n/\j=.int .i64 k/\Hid (Below w.1.size w wr)) (fun _ j _=>n-(intOf j).toNat)
 case atStart=>exact⟨0,Nat.zero_le _,rfl,Below.refl _ _⟩
 case round=>
  obtain⟨k,hk,rfl,HB⟩:=hrel
  by_cases hlt:k<n
  ·obtain⟨b,off,y,rfl,hb,hy,d0,d1,d2,d3,d4,d5,d6,d7,d8,d9⟩:=(H1.out.here HB.out).gain hlt
   obtain⟨b2,off2,z,rfl,hb2,hz,e0,e1,e2,e3,e4,e5,e6,e7,e8,e9⟩:=(H2.out.here HB.out).gain hlt
   have hyz:z=y:=by rw[hy] at hz;injection hz with hz;exact hz.symm
   subst hyz;clear hy hz hb hb2;have i1:(0:Int)<=(k:Int):=by omega
   have i2:(k:Int)<(n:Int):=by omega
   go_upto_region 6 with (fail)
   go_region_held3 (fun X=>X.cell? ⟨b,off+k*10,none⟩=some (.string ⟨z.cause.toArray⟩)/\X.cell? ⟨b,off+k*10+1,none⟩=some (.string ⟨z.lot.toArray⟩)/\X.cell? ⟨b,off+k*10+2,none⟩=some (.string ⟨z.inst.toArray⟩)/\X.cell? ⟨b,off+k*10+3,none⟩=some (.int .i64 z.acq)/\X.cell? ⟨b,off+k*10+4,none⟩=some (.int .i64 z.closed)/\X.cell? ⟨b,off+k*10+5,none⟩=some (.string ⟨z.q.toArray⟩)/\X.cell? ⟨b,off+k*10+6,none⟩=some (.string ⟨z.proceeds.toArray⟩)/\X.cell? ⟨b,off+k*10+7,none⟩=some (.string ⟨z.cost.toArray⟩)/\X.cell? ⟨b,off+k*10+8,none⟩=some (.string ⟨z.deferred.toArray⟩)/\X.cell? ⟨b,off+k*10+9,none⟩=some (.string ⟨z.replaced.toArray⟩)/\X.cell? ⟨b2,off2+k*10,none⟩=some (.string ⟨z.cause.toArray⟩)/\X.cell? ⟨b2,off2+k*10+1,none⟩=some (.string ⟨z.lot.toArray⟩)/\X.cell? ⟨b2,off2+k*10+2,none⟩=some (.string ⟨z.inst.toArray⟩)/\X.cell? ⟨b2,off2+k*10+3,none⟩=some (.int .i64 z.acq)/\X.cell? ⟨b2,off2+k*10+4,none⟩=some (.int .i64 z.closed)/\X.cell? ⟨b2,off2+k*10+5,none⟩=some (.string ⟨z.q.toArray⟩)/\X.cell? ⟨b2,off2+k*10+6,none⟩=some (.string ⟨z.proceeds.toArray⟩)/\X.cell? ⟨b2,off2+k*10+7,none⟩=some (.string ⟨z.cost.toArray⟩)/\X.cell? ⟨b2,off2+k*10+8,none⟩=some (.string ⟨z.deferred.toArray⟩)/\X.cell? ⟨b2,off2+k*10+9,none⟩=some (.string ⟨z.replaced.toArray⟩)) (go_keep) (fail)
   all_goals
    go_wp2_with fail
    exact⟨⟨k+1,by omega,by simp,HB.out.drew⟩,by simp[intOf];omega⟩
  ·obtain rfl:k=n:=by omega
   go_wp2_with fail
   first|go_ret|skip
   exact⟨rfl,HB.out⟩
theorem Zfx(A A':Option Addr)(n c c':Nat)(xs:List Stp)(w:World)(h1:Sts w w.1.size A n xs)(h2:Sts w w.1.size A' n xs)(hn:n<=1000000):
 Calls Tryz.prog 52 #[.slice A n c,.slice A' n c'] w fun e w'=>e=.returned (.bool true)/\Below w.1.size w w':=by
 have H1:=jq h1;have H2:=jq h2;clear h1 h2;have hne:((n:Int) !=(n:Int))=false:=by simp
 go_enter Tryz.func52,Tryz.ntmps52
 go_wp2_with fail
 go_loopw [5,13] (fun _ j wr=>∃k:Nat,k<=n/\j=.int .i64 k/\Hid (Below w.1.size w wr)) (fun _ j _=>n-(intOf j).toNat)
 case atStart=>exact⟨0,Nat.zero_le _,rfl,Below.refl _ _⟩
 case round=>
  obtain⟨k,hk,rfl,HB⟩:=hrel
  by_cases hlt:k<n
  ·obtain⟨b,off,y,rfl,hb,hy,d0,d1,d2,d3,d4,d5⟩:=(H1.out.here HB.out).step hlt
   obtain⟨b2,off2,z,rfl,hb2,hz,e0,e1,e2,e3,e4,e5⟩:=(H2.out.here HB.out).step hlt
   have hyz:z=y:=by rw[hy] at hz;injection hz with hz;exact hz.symm
   subst hyz;clear hy hz hb hb2;have i1:(0:Int)<=(k:Int):=by omega
   have i2:(k:Int)<(n:Int):=by omega
   go_upto_region 6 with (fail)
   go_region_held3 (fun X=>X.cell? ⟨b,off+k*6,none⟩=some (.string ⟨z.cause.toArray⟩)/\X.cell? ⟨b,off+k*6+1,none⟩=some (.string ⟨z.src.toArray⟩)/\X.cell? ⟨b,off+k*6+2,none⟩=some (.string ⟨z.dst.toArray⟩)/\X.cell? ⟨b,off+k*6+3,none⟩=some (.string ⟨z.q.toArray⟩)/\X.cell? ⟨b,off+k*6+4,none⟩=some (.string ⟨z.made.toArray⟩)/\X.cell? ⟨b,off+k*6+5,none⟩=some (.string ⟨z.cost.toArray⟩)/\X.cell? ⟨b2,off2+k*6,none⟩=some (.string ⟨z.cause.toArray⟩)/\X.cell? ⟨b2,off2+k*6+1,none⟩=some (.string ⟨z.src.toArray⟩)/\X.cell? ⟨b2,off2+k*6+2,none⟩=some (.string ⟨z.dst.toArray⟩)/\X.cell? ⟨b2,off2+k*6+3,none⟩=some (.string ⟨z.q.toArray⟩)/\X.cell? ⟨b2,off2+k*6+4,none⟩=some (.string ⟨z.made.toArray⟩)/\X.cell? ⟨b2,off2+k*6+5,none⟩=some (.string ⟨z.cost.toArray⟩)) (go_keep) (fail)
   all_goals
    go_wp2_with fail
    exact⟨⟨k+1,by omega,by simp,HB.out.drew⟩,by simp[intOf];omega⟩
  ·obtain rfl:k=n:=by omega
   go_wp2_with fail
   first|go_ret|skip
   exact⟨rfl,HB.out⟩
end
end Go.Proofs.YtpnncoinlopndaaGreatDoor
