/- Mq5p, Mq5, Mq7, Mq6. -/
import Derived.Test.YtmamnnaiogidaaaGreatDoorQGU40
import Derived.Test.YtmamnnaiogidaaaGreatDoorQGU34
set_option maxRecDepth 20000
set_option maxHeartbeats 4000000
namespace Go.Proofs.YtmamnnaiogidaaaGreatDoor
open Go.Lib renaming hid→jq
open Go.RowKit Go.Shelf
section
attribute [local go_sem ↓] Go.wp_at_zero Go.wp_at_succ
def MpV(m:Mp):Value:=.agg (mpA m).toArray
structure Mp.Sz (L:Nat) (m:Mp):Prop where
 cause:m.cause.length<=L
 inst:m.inst.length<=L
 other:m.other.length<=L
 ratio:m.ratio.Sz L
 share:m.share.Sz L
 price:m.price.Sz L
 d1: -9223372036854775808<=m.day
 d2:m.day<=9223372036854775807
theorem Zm7(x y:Rat):decide (QV x y<=0)=decide (x<=y):=by
 unfold QV;rw[Bool.eq_iff_iff,decide_eq_true_eq,decide_eq_true_eq]
 by_cases h1:x<y
 ·simp only[if_pos h1];exact⟨fun _=>Rat.le_of_lt h1,fun _=>by decide⟩
 ·rw[if_neg h1]
  by_cases h2:y<x
  ·rw[if_pos h2];exact⟨fun h=>absurd h (by decide),fun h=>absurd h2 (Rat.not_lt.2 h)⟩
  ·rw[if_neg h2];exact⟨fun _=>Rat.not_lt.1 h2,fun _=>by decide⟩
theorem Zis(x y:Rat):decide (QV x y<0)=decide (x<y):=by
 unfold QV
 by_cases h:x<y
 ·simp[h]
 ·rw[if_neg h];simp only[h,decide_false,decide_eq_false_iff_not]
  split<;>decide
theorem Zm8(x y:Rat):decide (0<QV x y)=decide (y<x):=by
 unfold QV
 by_cases h:x<y
 ·rw[if_pos h];have:¬y<x:=Rat.not_lt.2 (Rat.le_of_lt h)
  simp[this]
 ·rw[if_neg h]
  by_cases h2:y<x<;>simp[h2]
theorem ZaU(x y:Rat):QV x y= -1\/QV x y=0\/QV x y=1:=by
 unfold QV
 split
 ·exact .inl rfl
 ·split
  ·exact .inr (.inr rfl)
  ·exact .inr (.inl rfl)
theorem Zn8{f:Fr}(h:f.ok):(f=Qg 1)↔f.rat=1:=⟨fun e=>by rw[e,Qh],fun e=>by rw[h,e]⟩
theorem ZlC(m:Mp):mpC m=if(!(Qk m.cause&&Qk m.inst&&Qk m.other))=true then 23 else if(!Yo m.day)=true then 13 else if(!(decide m.ratio.ok&&decide m.share.ok&&decide m.price.ok))=true then 1
 else if(decide (m.ratio.rat<=0)||decide (m.share.rat<0)||decide (1<m.share.rat)||decide (m.price.rat<0))=true then 2 else if(m.keep&&(m.other==m.inst))=true then 18 else if(!m.keep&& !(m.share.n==(Qg 1).n&&m.share.d==(Qg 1).d))=true then 9 else 0:=by
 unfold mpC
 by_cases hA:(!(Qk m.cause&&Qk m.inst&&Qk m.other))=true
 ·rw[if_pos hA,if_pos hA]
 rw[if_neg hA,if_neg hA]
 by_cases hB:(!Yo m.day)=true
 ·rw[if_pos hB,if_pos hB]
 rw[if_neg hB,if_neg hB]
 by_cases h1:m.ratio.ok/\m.share.ok/\m.price.ok
 ·rw[if_neg (not_not_intro h1),if_neg (show ¬(!(decide m.ratio.ok&&decide m.share.ok&&decide m.price.ok))=true by simp[h1.1,h1.2.1,h1.2.2])]
  by_cases h2:m.ratio.rat<=0\/m.share.rat<0\/1<m.share.rat\/m.price.rat<0
  ·rw[if_pos h2,if_pos (show(decide (m.ratio.rat<=0)||decide (m.share.rat<0)||decide (1<m.share.rat)||decide (m.price.rat<0))=true by simp only[Bool.or_eq_true,decide_eq_true_eq,or_assoc];exact h2)]
  ·rw[if_neg h2,if_neg (show ¬(decide (m.ratio.rat<=0)||decide (m.share.rat<0)||decide (1<m.share.rat)||decide (m.price.rat<0))=true by simp only[Bool.or_eq_true,decide_eq_true_eq,or_assoc];exact h2)]
   by_cases h3:m.keep=true/\m.other=m.inst
   ·rw[if_pos h3,if_pos (show(m.keep&&(m.other==m.inst))=true by simp[h3.1,h3.2])]
   ·rw[if_neg h3,if_neg (show ¬(m.keep&&(m.other==m.inst))=true by simpa using h3)]
    have he:(m.share.n==(Qg 1).n&&m.share.d==(Qg 1).d)=decide (m.share.rat=1):=by
     rw[Bool.eq_iff_iff,decide_eq_true_eq,<-Zn8 h1.2.1];simp only[Bool.and_eq_true,beq_iff_eq];exact⟨fun h=>Fr.ext_ h.1 h.2,fun h=>by rw[h];exact⟨rfl,rfl⟩⟩
    rw[he]
    by_cases h4:m.keep=false/\m.share.rat≠1
    ·rw[if_pos h4,if_pos (by simp[h4.1,h4.2])]
    ·rw[if_neg h4,if_neg (by simpa using h4)]
 ·rw[if_pos h1,if_pos (show(!(decide m.ratio.ok&&decide m.share.ok&&decide m.price.ok))=true by
   by_cases a1:m.ratio.ok<;>by_cases a2:m.share.ok<;>by_cases a3:m.price.ok<;>simp_all)]
end
section
attribute [local go_sem ↓] Go.wp_at_zero Go.wp_at_succ
theorem ZhG(m:Mp)(hm:m.Sz 5000):Xh 103 #[MpV m] (.int .i64 (mpC m)):=by
 intro w hp;have HPO:=jq (ZlC m);generalize mpC m=res at*;have H:=jq ((Kp.start hp).new w.1.size rfl #[.string ⟨m.cause.toArray⟩,.int .i64 m.day,.string ⟨m.inst.toArray⟩,.string ⟨m.other.toArray⟩,.string ⟨m.ratio.n.toArray⟩,.string ⟨m.ratio.d.toArray⟩,.string ⟨m.share.n.toArray⟩,.string ⟨m.share.d.toArray⟩,.string ⟨m.price.n.toArray⟩,.string ⟨m.price.d.toArray⟩,.bool m.keep] 75);have HWD:=jq (Zcv m.day hm.d1 hm.d2);have HN1:=jq (XB m.cause);have HN2:=jq (XB m.inst);have HN3:=jq (XB m.other);have HC1:=jq (fun W hp=>Yz m.ratio W hp (hm.ratio.more (by omega)));have HC2:=jq (fun W hp=>Yz m.share W hp (hm.share.more (by omega)));have HC3:=jq (fun W hp=>Yz m.price W hp (hm.price.more (by omega)));rw[show JR m.ratio=if decide m.ratio.ok=true then 0 else 1 by unfold JR;simp] at HC1;rw[show JR m.share=if decide m.share.ok=true then 0 else 1 by unfold JR;simp] at HC2;rw[show JR m.price=if decide m.price.ok=true then 0 else 1 by unfold JR;simp] at HC3;have HS1:=jq (Vr m.ratio (hm.ratio.more (by omega)));have HS2:=jq (Vr m.share (hm.share.more (by omega)));have HS3:=jq (Vr m.price (hm.price.more (by omega)));have HO1:=jq ZlB;have hosz:(Qg 1).Sz 20000:=by rw[show(1:Rat)=((1:Int):Rat) from rfl,Jq];exact⟨by decide+kernel,by simp⟩
 have HCM:=jq (fun W hp=>Xw m.share (Qg 1) W hp (hm.share.more (by omega)) hosz);rw[Qh] at HCM;have e1:=Zm7 m.ratio.rat 0;have e2:=Zis m.share.rat 0;have e3:=Zm8 m.share.rat 1;have e4:=Zis m.price.rat 0;have E1:=jq e1;have E2:=jq e2;have E3:=jq e3;have E4:=jq e4;clear e1 e2 e3 e4 hosz hm hp;have v1:=ZaU m.ratio.rat 0;have v2:=ZaU m.share.rat 0;have v3:=ZaU m.share.rat 1;have v4:=ZaU m.price.rat 0;generalize QV m.ratio.rat 0=z1 at *; generalize QV m.share.rat 0=z2 at *; generalize QV m.share.rat 1=z3 at *; generalize QV m.price.rat 0=z4 at*;have V1:=jq v1;have V2:=jq v2;have V3:=jq v3;have V4:=jq v4;clear v1 v2 v3 v4;generalize decide (m.ratio.rat<=0)=r1 at *; generalize decide (m.share.rat<0)=r2 at *; generalize decide (1<m.share.rat)=r3 at *; generalize decide (m.price.rat<0)=r4 at*;generalize decide m.ratio.ok=o1 at *; generalize decide m.share.ok=o2 at *; generalize decide m.price.ok=o3 at*;generalize hc1:(if o1=true then(0:Int) else 1)=c1 at *; generalize hc2:(if o2=true then(0:Int) else 1)=c2 at *; generalize hc3:(if o3=true then(0:Int) else 1)=c3 at*;generalize hcd:(if Yo m.day=true then(0:Int) else 13)=cd at*;have KD:=jq hcd;clear hcd;have K1:=jq hc1;have K2:=jq hc2;have K3:=jq hc3;clear hc1 hc2 hc3;generalize Qg 1=one at*;generalize Qk m.cause=n1 at *; generalize Qk m.inst=n2 at *; generalize Qk m.other=n3 at *; generalize Yo m.day=dd at*;generalize wkd m.day=wk at*;have eA:(mpA m).toArray=#[.string ⟨m.cause.toArray⟩,.int .i64 m.day,.string ⟨m.inst.toArray⟩,.string ⟨m.other.toArray⟩,.string ⟨m.ratio.n.toArray⟩,.string ⟨m.ratio.d.toArray⟩,.string ⟨m.share.n.toArray⟩,.string ⟨m.share.d.toArray⟩,.string ⟨m.price.n.toArray⟩,.string ⟨m.price.d.toArray⟩,.bool m.keep]:=rfl;unfold MpV;rw[eA];clear eA;unfold Qy at*
 unfold S at*
 have x0:=H.out.c 0 0 rfl rfl;have x1:=H.out.c 0 1 rfl rfl;have x2:=H.out.c 0 2 rfl rfl;have x3:=H.out.c 0 3 rfl rfl;have x4:=H.out.c 0 4 rfl rfl;have x5:=H.out.c 0 5 rfl rfl;have x6:=H.out.c 0 6 rfl rfl;have x7:=H.out.c 0 7 rfl rfl;have x8:=H.out.c 0 8 rfl rfl;have x9:=H.out.c 0 9 rfl rfl;have x10:=H.out.c 0 10 rfl rfl;go_enter Tryz.func103,Tryz.ntmps103
 go_wp2_with fail
 generalize w.alloc _=W at*;refine(HWD.out _ H.out.pw).mono ?_;rintro e w1 ⟨rfl,hb⟩;replace H:=jq (H.out.here hb);clear hb;clear x0 x1 x2 x3 x4 x5 x6 x7 x8 x9 x10
 have x0:=H.out.c 0 0 rfl rfl;have x1:=H.out.c 0 1 rfl rfl;have x2:=H.out.c 0 2 rfl rfl;have x3:=H.out.c 0 3 rfl rfl;have x4:=H.out.c 0 4 rfl rfl;have x5:=H.out.c 0 5 rfl rfl;have x6:=H.out.c 0 6 rfl rfl;have x7:=H.out.c 0 7 rfl rfl;have x8:=H.out.c 0 8 rfl rfl;have x9:=H.out.c 0 9 rfl rfl;have x10:=H.out.c 0 10 rfl rfl;go_wp2_with fail
 refine(HN1.out _ H.out.pw).mono ?_;rintro e w1 ⟨rfl,hb⟩;replace H:=jq (H.out.here hb);clear hb;clear x0 x1 x2 x3 x4 x5 x6 x7 x8 x9 x10
 have x0:=H.out.c 0 0 rfl rfl;have x1:=H.out.c 0 1 rfl rfl;have x2:=H.out.c 0 2 rfl rfl;have x3:=H.out.c 0 3 rfl rfl;have x4:=H.out.c 0 4 rfl rfl;have x5:=H.out.c 0 5 rfl rfl;have x6:=H.out.c 0 6 rfl rfl;have x7:=H.out.c 0 7 rfl rfl;have x8:=H.out.c 0 8 rfl rfl;have x9:=H.out.c 0 9 rfl rfl;have x10:=H.out.c 0 10 rfl rfl
 cases n1 with
 |false=>
  go_wp2_with fail
  first|go_ret|skip
  rw[HPO.out];exact⟨Qf (by simp),H.out.bl⟩
 |true=>
  go_wp2_with fail
  refine(HN2.out _ H.out.pw).mono ?_;rintro e w1 ⟨rfl,hb⟩;replace H:=jq (H.out.here hb);clear hb;clear x0 x1 x2 x3 x4 x5 x6 x7 x8 x9 x10
  have x0:=H.out.c 0 0 rfl rfl;have x1:=H.out.c 0 1 rfl rfl;have x2:=H.out.c 0 2 rfl rfl;have x3:=H.out.c 0 3 rfl rfl;have x4:=H.out.c 0 4 rfl rfl;have x5:=H.out.c 0 5 rfl rfl;have x6:=H.out.c 0 6 rfl rfl;have x7:=H.out.c 0 7 rfl rfl;have x8:=H.out.c 0 8 rfl rfl;have x9:=H.out.c 0 9 rfl rfl;have x10:=H.out.c 0 10 rfl rfl
  cases n2 with
  |false=>
   go_wp2_with fail
   first|go_ret|skip
   rw[HPO.out];exact⟨Qf (by simp),H.out.bl⟩
  |true=>
   go_wp2_with fail
   refine(HN3.out _ H.out.pw).mono ?_;rintro e w1 ⟨rfl,hb⟩;replace H:=jq (H.out.here hb);clear hb;clear x0 x1 x2 x3 x4 x5 x6 x7 x8 x9 x10
   have x0:=H.out.c 0 0 rfl rfl;have x1:=H.out.c 0 1 rfl rfl;have x2:=H.out.c 0 2 rfl rfl;have x3:=H.out.c 0 3 rfl rfl;have x4:=H.out.c 0 4 rfl rfl;have x5:=H.out.c 0 5 rfl rfl;have x6:=H.out.c 0 6 rfl rfl;have x7:=H.out.c 0 7 rfl rfl;have x8:=H.out.c 0 8 rfl rfl;have x9:=H.out.c 0 9 rfl rfl;have x10:=H.out.c 0 10 rfl rfl
   cases n3 with
   |false=>
    go_wp2_with fail
    first|go_ret|skip
    rw[HPO.out];exact⟨Qf (by simp),H.out.bl⟩
   |true=>
    cases dd with
    |false=>
     obtain rfl:cd=13:=by rw[<-KD.out];rfl
     go_wp2_with fail
     first|go_ret|skip
     rw[HPO.out];exact⟨Qf (by simp),H.out.bl⟩
    |true=>
     obtain rfl:cd=0:=by rw[<-KD.out];rfl
     go_wp2_with fail
     refine(HC1.out _ H.out.po).mono ?_;rintro e w1 ⟨rfl,hb⟩;replace H:=jq (H.out.here hb);clear hb;clear x0 x1 x2 x3 x4 x5 x6 x7 x8 x9 x10
     have x0:=H.out.c 0 0 rfl rfl;have x1:=H.out.c 0 1 rfl rfl;have x2:=H.out.c 0 2 rfl rfl;have x3:=H.out.c 0 3 rfl rfl;have x4:=H.out.c 0 4 rfl rfl;have x5:=H.out.c 0 5 rfl rfl;have x6:=H.out.c 0 6 rfl rfl;have x7:=H.out.c 0 7 rfl rfl;have x8:=H.out.c 0 8 rfl rfl;have x9:=H.out.c 0 9 rfl rfl;have x10:=H.out.c 0 10 rfl rfl
     cases o1 with
     |false=>
      obtain rfl:c1=1:=by rw[<-K1.out];rfl
      go_wp2_with fail
      first|go_ret|skip
      rw[HPO.out];exact⟨Qf (by simp),H.out.bl⟩
     |true=>
      obtain rfl:c1=0:=by rw[<-K1.out];rfl
      go_wp2_with fail
      refine(HC2.out _ H.out.po).mono ?_;rintro e w1 ⟨rfl,hb⟩;replace H:=jq (H.out.here hb);clear hb;clear x0 x1 x2 x3 x4 x5 x6 x7 x8 x9 x10
      have x0:=H.out.c 0 0 rfl rfl;have x1:=H.out.c 0 1 rfl rfl;have x2:=H.out.c 0 2 rfl rfl;have x3:=H.out.c 0 3 rfl rfl;have x4:=H.out.c 0 4 rfl rfl;have x5:=H.out.c 0 5 rfl rfl;have x6:=H.out.c 0 6 rfl rfl;have x7:=H.out.c 0 7 rfl rfl;have x8:=H.out.c 0 8 rfl rfl;have x9:=H.out.c 0 9 rfl rfl;have x10:=H.out.c 0 10 rfl rfl
      cases o2 with
      |false=>
       obtain rfl:c2=1:=by rw[<-K2.out];rfl
       go_wp2_with fail
       first|go_ret|skip
       rw[HPO.out];exact⟨Qf (by simp),H.out.bl⟩
      |true=>
       obtain rfl:c2=0:=by rw[<-K2.out];rfl
       go_wp2_with fail
       refine(HC3.out _ H.out.po).mono ?_;rintro e w1 ⟨rfl,hb⟩;replace H:=jq (H.out.here hb);clear hb;clear x0 x1 x2 x3 x4 x5 x6 x7 x8 x9 x10
       have x0:=H.out.c 0 0 rfl rfl;have x1:=H.out.c 0 1 rfl rfl;have x2:=H.out.c 0 2 rfl rfl;have x3:=H.out.c 0 3 rfl rfl;have x4:=H.out.c 0 4 rfl rfl;have x5:=H.out.c 0 5 rfl rfl;have x6:=H.out.c 0 6 rfl rfl;have x7:=H.out.c 0 7 rfl rfl;have x8:=H.out.c 0 8 rfl rfl;have x9:=H.out.c 0 9 rfl rfl;have x10:=H.out.c 0 10 rfl rfl
       cases o3 with
       |false=>
        obtain rfl:c3=1:=by rw[<-K3.out];rfl
        go_wp2_with fail
        first|go_ret|skip
        rw[HPO.out];exact⟨Qf (by simp),H.out.bl⟩
       |true=>
        obtain rfl:c3=0:=by rw[<-K3.out];rfl
        go_upto_region 8 with (fail)
        go_cut [48] (fun s wc=>s=.bool (r1||r2||r3||r4)/\Hid (Kp w [(w.1.size,#[.string ⟨m.cause.toArray⟩,.int .i64 m.day,.string ⟨m.inst.toArray⟩,.string ⟨m.other.toArray⟩,.string ⟨m.ratio.n.toArray⟩,.string ⟨m.ratio.d.toArray⟩,.string ⟨m.share.n.toArray⟩,.string ⟨m.share.d.toArray⟩,.string ⟨m.price.n.toArray⟩,.string ⟨m.price.d.toArray⟩,.bool m.keep],75)] wc))
        case first=>
         clear x0 x1 x2 x3 x10 HPO HWD HN1 HN2 HN3 HC1 HC2 HC3 K1 K2 K3 KD
         rcases V1.out with rfl|rfl|rfl
         all_goals first
         |have e:r1=true:=by rw[<-E1.out];rfl
          subst e
         |have e:r1=false:=by rw[<-E1.out];rfl
          subst e
          rcases V2.out with rfl|rfl|rfl
          all_goals first
          |have e:r2=true:=by rw[<-E2.out];rfl
           subst e
          |have e:r2=false:=by rw[<-E2.out];rfl
           subst e
           rcases V3.out with rfl|rfl|rfl
           all_goals first
           |have e:r3=true:=by rw[<-E3.out];rfl
            subst e
           |have e:r3=false:=by rw[<-E3.out];rfl
            subst e
            rcases V4.out with rfl|rfl|rfl
            all_goals first
            |have e:r4=true:=by rw[<-E4.out];rfl
             subst e
            |have e:r4=false:=by rw[<-E4.out];rfl
             subst e
             first
             |(go_region_held3 (fun w'=>w'.cell? ⟨w.1.size,4,none⟩=some (.string ⟨m.ratio.n.toArray⟩)/\w'.cell? ⟨w.1.size,5,none⟩=some (.string ⟨m.ratio.d.toArray⟩)/\w'.cell? ⟨w.1.size,6,none⟩=some (.string ⟨m.share.n.toArray⟩)/\w'.cell? ⟨w.1.size,7,none⟩=some (.string ⟨m.share.d.toArray⟩)/\w'.cell? ⟨w.1.size,8,none⟩=some (.string ⟨m.price.n.toArray⟩)/\w'.cell? ⟨w.1.size,9,none⟩=some (.string ⟨m.price.d.toArray⟩)) (first|exact ka|exact kb|exact kc|exact kd|exact ke|go_keep)
              (first
                |(go_at_call_of 94 (Value.agg #[.string ⟨m.ratio.n.toArray⟩,.string ⟨m.ratio.d.toArray⟩]);refine(HS1.out _ H.out.drew.pw).mono ?_;rintro e w2 ⟨rfl,hb2⟩;have ha:Below w1.1.size w1 w2:=(Below.refl _ w1).drew.trans hb2;have ka:=And.intro ((H.out.here ha).c 0 4 rfl rfl) (And.intro ((H.out.here ha).c 0 5 rfl rfl) (And.intro ((H.out.here ha).c 0 6 rfl rfl) (And.intro ((H.out.here ha).c 0 7 rfl rfl) (And.intro ((H.out.here ha).c 0 8 rfl rfl) ((H.out.here ha).c 0 9 rfl rfl))))))
                |(go_at_call_of 94 (Value.agg #[.string ⟨m.share.n.toArray⟩,.string ⟨m.share.d.toArray⟩]);refine(HS2.out _ (H.out.here ha).pw).mono ?_;rintro e w3 ⟨rfl,hb3⟩;have hbb:Below w1.1.size w1 w3:=ha.trans (hb3.mono ha.size);have kb:=And.intro ((H.out.here hbb).c 0 4 rfl rfl) (And.intro ((H.out.here hbb).c 0 5 rfl rfl) (And.intro ((H.out.here hbb).c 0 6 rfl rfl) (And.intro ((H.out.here hbb).c 0 7 rfl rfl) (And.intro ((H.out.here hbb).c 0 8 rfl rfl) ((H.out.here hbb).c 0 9 rfl rfl))))))
                |(go_at_call 147;refine(HO1.out _ (H.out.here hbb).pw).mono ?_;rintro e w4 ⟨rfl,hb4⟩;have hcc:Below w1.1.size w1 w4:=hbb.trans (hb4.mono hbb.size);have kc:=And.intro ((H.out.here hcc).c 0 4 rfl rfl) (And.intro ((H.out.here hcc).c 0 5 rfl rfl) (And.intro ((H.out.here hcc).c 0 6 rfl rfl) (And.intro ((H.out.here hcc).c 0 7 rfl rfl) (And.intro ((H.out.here hcc).c 0 8 rfl rfl) ((H.out.here hcc).c 0 9 rfl rfl))))))
                |(go_at_call 18;refine(HCM.out _ (H.out.here hcc).po).mono ?_;rintro e w5 ⟨rfl,hb5⟩;have hdd:Below w1.1.size w1 w5:=hcc.trans (hb5.mono hcc.size);have kd:=And.intro ((H.out.here hdd).c 0 4 rfl rfl) (And.intro ((H.out.here hdd).c 0 5 rfl rfl) (And.intro ((H.out.here hdd).c 0 6 rfl rfl) (And.intro ((H.out.here hdd).c 0 7 rfl rfl) (And.intro ((H.out.here hdd).c 0 8 rfl rfl) ((H.out.here hdd).c 0 9 rfl rfl))))))
                |(go_at_call_of 94 (Value.agg #[.string ⟨m.price.n.toArray⟩,.string ⟨m.price.d.toArray⟩]);refine(HS3.out _ (H.out.here hdd).pw).mono ?_;rintro e w6 ⟨rfl,hb6⟩;have hee:Below w1.1.size w1 w6:=hdd.trans (hb6.mono hdd.size);have ke:=And.intro ((H.out.here hee).c 0 4 rfl rfl) (And.intro ((H.out.here hee).c 0 5 rfl rfl) (And.intro ((H.out.here hee).c 0 6 rfl rfl) (And.intro ((H.out.here hee).c 0 7 rfl rfl) (And.intro ((H.out.here hee).c 0 8 rfl rfl) ((H.out.here hee).c 0 9 rfl rfl))))))
              ))
             |fail
             all_goals
              go_wp2_with fail
              go_meet
              first|exact⟨by simp,H.out.here hee⟩
         all_goals
          first
          |(go_region_with
           (first
             |(go_at_call_of 94 (Value.agg #[.string ⟨m.ratio.n.toArray⟩,.string ⟨m.ratio.d.toArray⟩]);refine(HS1.out _ H.out.drew.pw).mono ?_;rintro e w2 ⟨rfl,hb2⟩;have ha:Below w1.1.size w1 w2:=(Below.refl _ w1).drew.trans hb2;have ya4:=(H.out.here ha).c 0 4 rfl rfl;have ya5:=(H.out.here ha).c 0 5 rfl rfl;have ya6:=(H.out.here ha).c 0 6 rfl rfl;have ya7:=(H.out.here ha).c 0 7 rfl rfl;have ya8:=(H.out.here ha).c 0 8 rfl rfl;have ya9:=(H.out.here ha).c 0 9 rfl rfl)
             |(go_at_call_of 94 (Value.agg #[.string ⟨m.share.n.toArray⟩,.string ⟨m.share.d.toArray⟩]);refine(HS2.out _ (H.out.here ha).pw).mono ?_;rintro e w3 ⟨rfl,hb3⟩;have hbb:Below w1.1.size w1 w3:=ha.trans (hb3.mono ha.size);have yb4:=(H.out.here hbb).c 0 4 rfl rfl;have yb5:=(H.out.here hbb).c 0 5 rfl rfl;have yb6:=(H.out.here hbb).c 0 6 rfl rfl;have yb7:=(H.out.here hbb).c 0 7 rfl rfl;have yb8:=(H.out.here hbb).c 0 8 rfl rfl;have yb9:=(H.out.here hbb).c 0 9 rfl rfl)
             |(go_at_call 147;refine(HO1.out _ (H.out.here hbb).pw).mono ?_;rintro e w4 ⟨rfl,hb4⟩;have hcc:Below w1.1.size w1 w4:=hbb.trans (hb4.mono hbb.size);have yc4:=(H.out.here hcc).c 0 4 rfl rfl;have yc5:=(H.out.here hcc).c 0 5 rfl rfl;have yc6:=(H.out.here hcc).c 0 6 rfl rfl;have yc7:=(H.out.here hcc).c 0 7 rfl rfl;have yc8:=(H.out.here hcc).c 0 8 rfl rfl;have yc9:=(H.out.here hcc).c 0 9 rfl rfl)
             |(go_at_call 18;refine(HCM.out _ (H.out.here hcc).po).mono ?_;rintro e w5 ⟨rfl,hb5⟩;have hdd:Below w1.1.size w1 w5:=hcc.trans (hb5.mono hcc.size);have yd4:=(H.out.here hdd).c 0 4 rfl rfl;have yd5:=(H.out.here hdd).c 0 5 rfl rfl;have yd6:=(H.out.here hdd).c 0 6 rfl rfl;have yd7:=(H.out.here hdd).c 0 7 rfl rfl;have yd8:=(H.out.here hdd).c 0 8 rfl rfl;have yd9:=(H.out.here hdd).c 0 9 rfl rfl)
             |(go_at_call_of 94 (Value.agg #[.string ⟨m.price.n.toArray⟩,.string ⟨m.price.d.toArray⟩]);refine(HS3.out _ (H.out.here hdd).pw).mono ?_;rintro e w6 ⟨rfl,hb6⟩;have hee:Below w1.1.size w1 w6:=hdd.trans (hb6.mono hdd.size);have ye4:=(H.out.here hee).c 0 4 rfl rfl;have ye5:=(H.out.here hee).c 0 5 rfl rfl;have ye6:=(H.out.here hee).c 0 6 rfl rfl;have ye7:=(H.out.here hee).c 0 7 rfl rfl;have ye8:=(H.out.here hee).c 0 8 rfl rfl;have ye9:=(H.out.here hee).c 0 9 rfl rfl)
           ))
          |fail
          all_goals
           go_wp2_with fail
           go_meet
           first|exact⟨by simp,H.out.here hee⟩|exact⟨by simp,H.out.here hdd⟩|exact⟨by simp,H.out.here hbb⟩|exact⟨by simp,H.out.here ha⟩
        case rest=>
        obtain⟨rfl,HW⟩:=hcut
        clear x0 x1 x2 x3 x4 x5 x6 x7 x8 x9 x10;clear H;have H:=HW;clear HW;have x0:=H.out.c 0 0 rfl rfl;have x1:=H.out.c 0 1 rfl rfl;have x2:=H.out.c 0 2 rfl rfl;have x3:=H.out.c 0 3 rfl rfl;have x4:=H.out.c 0 4 rfl rfl;have x5:=H.out.c 0 5 rfl rfl;have x6:=H.out.c 0 6 rfl rfl;have x7:=H.out.c 0 7 rfl rfl;have x8:=H.out.c 0 8 rfl rfl;have x9:=H.out.c 0 9 rfl rfl;have x10:=H.out.c 0 10 rfl rfl;generalize hr:(r1||r2||r3||r4)=rr at*;clear hr
        cases rr with
        |true=>
         go_wp2_with fail
         first|go_ret|skip
         rw[HPO.out];exact⟨Qf (by simp),H.out.bl⟩
        |false=>
         clear HWD HN1 HN2 HN3 HC1 HC2 HC3 K1 K2 K3 KD HS1 HS2 HS3 HCM E1 E2 E3 E4 V1 V2 V3 V4 x0 x1 x4 x5 x8 x9;generalize hkp:m.keep=kp at*;have HKP:=jq hkp;clear hkp
         cases kp with
         |true=>
          cases he:(m.other==m.inst) with
          |true=>
           go_wp2_with fail
           first|go_ret|skip
           rw[HPO.out];exact⟨Qf (by simp[he]),H.out.bl⟩
          |false=>
           go_wp2_with fail
           first
           |(go_region_with (fail))
           |fail
           all_goals
            go_wp2_with fail
            first|go_ret|skip
            rw[HPO.out];exact⟨Qf (by simp[he]),(H.out.here (Below.refl _ _).drew).bl⟩
         |false=>
          cases hb1:(m.share.n==one.n)<;>cases hb2:(m.share.d==one.d)
          all_goals
           go_wp2_with fail
           first
           |(go_region_held3 (fun w'=>w'.cell? ⟨w.1.size,6,none⟩=some (.string ⟨m.share.n.toArray⟩)/\w'.cell? ⟨w.1.size,7,none⟩=some (.string ⟨m.share.d.toArray⟩)/\w'.cell? ⟨w.1.size,10,none⟩=some (.bool false)) (first|exact ka|go_keep)
            (first
              |(go_at_call 147;refine(HO1.out _ H.out.drew.pw).mono ?_;rintro e w4 ⟨rfl,hb4⟩;have ha:Below wc.1.size wc w4:=(Below.refl _ wc).drew.trans hb4;have ka:=And.intro ((H.out.here ha).c 0 6 rfl rfl) (And.intro ((H.out.here ha).c 0 7 rfl rfl) ((H.out.here ha).c 0 10 rfl rfl)))))
           |fail
           all_goals
            go_wp2_with fail
            first|go_ret|skip
            rw[HPO.out];exact⟨Qf (by simp[hb1,hb2]),(H.out.here ha).bl⟩
end
section
attribute [local go_sem ↓] Go.wp_at_zero Go.wp_at_succ
structure Mp.Bad (m:Mp):Prop where
 bad:(Qk m.cause&&Qk m.inst&&Qk m.other)=false
 d1: -9223372036854775808<=m.day
 d2:m.day<=9223372036854775807
theorem Mp.Sz.more{L K:Nat}{m:Mp}(h:m.Sz L)(hK:L<=K):m.Sz K:=⟨Nat.le_trans h.cause hK,Nat.le_trans h.inst hK,Nat.le_trans h.other hK,h.ratio.more hK,h.share.more hK,h.price.more hK,h.d1,h.d2⟩
theorem Mp.Bad.c{m:Mp}(h:m.Bad):mpC m=23:=by
 unfold mpC;rw[h.bad];rfl
theorem ZhH(m:Mp)(hm:m.Bad):Xh 103 #[MpV m] (.int .i64 (mpC m)):=by
 intro w hp;rw[hm.c];have H:=jq ((Kp.start hp).new w.1.size rfl #[.string ⟨m.cause.toArray⟩,.int .i64 m.day,.string ⟨m.inst.toArray⟩,.string ⟨m.other.toArray⟩,.string ⟨m.ratio.n.toArray⟩,.string ⟨m.ratio.d.toArray⟩,.string ⟨m.share.n.toArray⟩,.string ⟨m.share.d.toArray⟩,.string ⟨m.price.n.toArray⟩,.string ⟨m.price.d.toArray⟩,.bool m.keep] 75);have HWD:=jq (Zcv m.day hm.d1 hm.d2);have HN1:=jq (XB m.cause);have HN2:=jq (XB m.inst);have HN3:=jq (XB m.other);have hb:=hm.bad;generalize (if Yo m.day=true then(0:Int) else 13)=cd at*;generalize wkd m.day=wk at*;generalize Qk m.cause=n1 at *; generalize Qk m.inst=n2 at *; generalize Qk m.other=n3 at*;have eA:(mpA m).toArray=#[.string ⟨m.cause.toArray⟩,.int .i64 m.day,.string ⟨m.inst.toArray⟩,.string ⟨m.other.toArray⟩,.string ⟨m.ratio.n.toArray⟩,.string ⟨m.ratio.d.toArray⟩,.string ⟨m.share.n.toArray⟩,.string ⟨m.share.d.toArray⟩,.string ⟨m.price.n.toArray⟩,.string ⟨m.price.d.toArray⟩,.bool m.keep]:=rfl;unfold MpV;rw[eA];clear eA hm hp;unfold S at*
 have z0:(w.alloc (.cells #[.string ⟨m.cause.toArray⟩,.int .i64 m.day,.string ⟨m.inst.toArray⟩,.string ⟨m.other.toArray⟩,.string ⟨m.ratio.n.toArray⟩,.string ⟨m.ratio.d.toArray⟩,.string ⟨m.share.n.toArray⟩,.string ⟨m.share.d.toArray⟩,.string ⟨m.price.n.toArray⟩,.string ⟨m.price.d.toArray⟩,.bool m.keep] 75)).cell? ⟨w.1.size,1,none⟩=some (.int .i64 m.day):=H.out.c 0 1 rfl rfl
 have hcase:n1=false\/(n1=true/\n2=false)\/(n1=true/\n2=true/\n3=false):=by
  cases n1<;>cases n2<;>cases n3<;>simp_all
 clear hb
 rcases hcase with rfl|⟨rfl,rfl⟩|⟨rfl,rfl,rfl⟩
 ·go_enter Tryz.func103,Tryz.ntmps103
  go_wp2_with fail
  generalize w.alloc _=W at*;refine(HWD.out _ H.out.pw).mono ?_;rintro e w1 ⟨rfl,hb1⟩;have H1:=jq (H.out.here hb1);clear hb1 z0;have c0:=H1.out.c 0 0 rfl rfl;have c2:=H1.out.c 0 2 rfl rfl;have c3:=H1.out.c 0 3 rfl rfl;go_wp2_with fail
  refine(HN1.out _ H1.out.pw).mono ?_;rintro e w2 ⟨rfl,hb2⟩;have H2:=jq (H1.out.here hb2);clear hb2 c0 c2 c3;go_wp2_with fail
  first|go_ret|skip
  exact⟨rfl,H2.out.bl⟩
 ·go_enter Tryz.func103,Tryz.ntmps103
  go_wp2_with fail
  generalize w.alloc _=W at*;refine(HWD.out _ H.out.pw).mono ?_;rintro e w1 ⟨rfl,hb1⟩;have H1:=jq (H.out.here hb1);clear hb1 z0;have c0:=H1.out.c 0 0 rfl rfl;have c2:=H1.out.c 0 2 rfl rfl;have c3:=H1.out.c 0 3 rfl rfl;go_wp2_with fail
  refine(HN1.out _ H1.out.pw).mono ?_;rintro e w2 ⟨rfl,hb2⟩;have H2:=jq (H1.out.here hb2);clear hb2 c0 c2 c3;have c2:=H2.out.c 0 2 rfl rfl;have c3:=H2.out.c 0 3 rfl rfl;go_wp2_with fail
  refine(HN2.out _ H2.out.pw).mono ?_;rintro e w3 ⟨rfl,hb3⟩;have H3:=jq (H2.out.here hb3);clear hb3 c2 c3;go_wp2_with fail
  first|go_ret|skip
  exact⟨rfl,H3.out.bl⟩
 ·go_enter Tryz.func103,Tryz.ntmps103
  go_wp2_with fail
  generalize w.alloc _=W at*;refine(HWD.out _ H.out.pw).mono ?_;rintro e w1 ⟨rfl,hb1⟩;have H1:=jq (H.out.here hb1);clear hb1 z0;have c0:=H1.out.c 0 0 rfl rfl;have c2:=H1.out.c 0 2 rfl rfl;have c3:=H1.out.c 0 3 rfl rfl;go_wp2_with fail
  refine(HN1.out _ H1.out.pw).mono ?_;rintro e w2 ⟨rfl,hb2⟩;have H2:=jq (H1.out.here hb2);clear hb2 c0 c2 c3;have c2:=H2.out.c 0 2 rfl rfl;have c3:=H2.out.c 0 3 rfl rfl;go_wp2_with fail
  refine(HN2.out _ H2.out.pw).mono ?_;rintro e w3 ⟨rfl,hb3⟩;have H3:=jq (H2.out.here hb3);clear hb3 c2 c3;have c3:=H3.out.c 0 3 rfl rfl;go_wp2_with fail
  refine(HN3.out _ H3.out.pw).mono ?_;rintro e w4 ⟨rfl,hb4⟩;have H4:=jq (H3.out.here hb4);clear hb4 c3;go_wp2_with fail
  first|go_ret|skip
  exact⟨rfl,H4.out.bl⟩
theorem ZhI(m:Mp)(h:m.Sz 5000\/m.Bad):Xh 103 #[MpV m] (.int .i64 (mpC m)):=h.elim (ZhG m) (ZhH m)
end
section
attribute [local go_sem ↓] Go.wp_at_zero Go.wp_at_succ
theorem Zch(A:Option Addr)(n c:Nat)(ls:List Lot)(m:Mp)(w:World)(hp:Env w)(hs:Xg w w.1.size A n ls)(hl:∀x∈ls,x.Sz 50000)(hm:m.Sz 5000\/m.Bad)(hn:n<=1000000000):
 Calls Tryz.prog 62 #[.slice A n c,MpV m] w fun e w'=>e=.returned (.bool (decide (Xm ls=0)&&decide (mpC m=0)))/\Below w.1.size w w':=by
 have H:=jq ((Kp.start hp).new w.1.size rfl #[.string ⟨m.cause.toArray⟩,.int .i64 m.day,.string ⟨m.inst.toArray⟩,.string ⟨m.other.toArray⟩,.string ⟨m.ratio.n.toArray⟩,.string ⟨m.ratio.d.toArray⟩,.string ⟨m.share.n.toArray⟩,.string ⟨m.share.d.toArray⟩,.string ⟨m.price.n.toArray⟩,.string ⟨m.price.d.toArray⟩,.bool m.keep] 75);have HCA:=jq (fun W (hb:Below w.1.size w W)=>JK A n c ls W (hp.here hb) (hs.here hb) hl hn);have HMC:=jq (fun W (hb:Below w.1.size w W)=>ZhI m hm W (hp.here hb));clear hp hs hl hn hm;generalize Xm ls=za at*;generalize mpC m=zm at*;unfold MpV mpA at*
 unfold S at*
 by_cases ha:za=0
 ·have ha0:(za==0)=true:=by simp[ha]
  have hd:decide (za=0)=true:=by simp[ha]
  rw[hd];go_enter Tryz.func62,Tryz.ntmps62
  go_wp2_with fail
  generalize w.alloc _=W at*;refine(HCA.out _ H.out.bl).mono ?_;rintro e w1 ⟨rfl,hb⟩;have H1:=jq (H.out.here hb);clear H hb;have c0:=H1.out.c 0 0 rfl rfl;have c1:=H1.out.c 0 1 rfl rfl;have c2:=H1.out.c 0 2 rfl rfl;have c3:=H1.out.c 0 3 rfl rfl;have c4:=H1.out.c 0 4 rfl rfl;have c5:=H1.out.c 0 5 rfl rfl;have c6:=H1.out.c 0 6 rfl rfl;have c7:=H1.out.c 0 7 rfl rfl;have c8:=H1.out.c 0 8 rfl rfl;have c9:=H1.out.c 0 9 rfl rfl;have c10:=H1.out.c 0 10 rfl rfl;go_wp2_with fail
  refine(HMC.out _ H1.out.bl).mono ?_;rintro e w2 ⟨rfl,hb⟩;have HZ:=jq (show(zm==0)=decide (zm=0) from rfl);go_wp2_with fail
  go_ret
  exact⟨by simp[HZ.out],(H1.out.here hb).bl⟩
 ·have ha0:(za==0)=false:=by simp[ha]
  have hd:decide (za=0)=false:=by simp[ha]
  rw[hd];go_enter Tryz.func62,Tryz.ntmps62
  go_wp2_with fail
  generalize w.alloc _=W at*;refine(HCA.out _ H.out.bl).mono ?_;rintro e w1 ⟨rfl,hb⟩;go_wp2_with fail
  go_ret
  exact⟨by simp,(H.out.here hb).bl⟩
end
end Go.Proofs.YtmamnnaiogidaaaGreatDoor
