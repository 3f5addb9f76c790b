/- Vs2, Y9a, Y9b, Y9c, Y9, Vel, Y10. -/
import Derived.Test.YtmfjmngebldanaaGreatDoorQGVe28
set_option maxRecDepth 100000
set_option maxHeartbeats 16000000
namespace Go.Proofs.YtmfjmngebldanaaGreatDoor
open Go.Lib renaming hid→jq
open Go.RowKit Go.Shelf
section
attribute [local go_sem] Oper.semAt_some
attribute [local go_sem ↓] Go.wp_at_zero Go.wp_at_succ Ql
theorem ZhP(f g:Fct):decide (f=g)=(f.key==g.key&&f.stamp==g.stamp&&f.cancelled==g.cancelled&&f.day==g.day&&f.kind==g.kind&&f.inst==g.inst&&f.other==g.other&&f.cur==g.cur&&f.target==g.target&&f.q==g.q&&f.amount==g.amount&&f.fee==g.fee&&(f.price.n==g.price.n&&f.price.d==g.price.d)&&(f.ratio.n==g.ratio.n&&f.ratio.d==g.ratio.d)&&(f.share.n==g.share.n&&f.share.d==g.share.d)&&decide (f.picks=g.picks)&&decide (f.options=g.options)&&f.choice==g.choice):=by
 obtain⟨key,stamp,canc,day,kind,inst,other,cur,target,q,amount,fee,⟨pn,pd⟩,⟨rn,rd⟩,⟨sn,sd⟩,picks,options,choice⟩:=f
 obtain⟨key',stamp',canc',day',kind',inst',other',cur',target',q',amount',fee',⟨pn',pd'⟩,⟨rn',rd'⟩,⟨sn',sd'⟩,picks',options',choice'⟩:=g
 rw[Bool.eq_iff_iff];simp[and_assoc]
theorem Zdg(f g:Fct)(u v:FaV)(w:World)(hp:Env w)(hf:FxM w w.1.size (f,u))(hg:FxM w w.1.size (g,v)):
 Calls Tryz.prog 35 #[.agg (Qb f u),.agg (Qb g v)] w fun e w'=>e=.returned (.bool (decide (f=g)))/\Below w.1.size w w':=by
 have H:=jq (((Kp.start hp).new w.1.size rfl (Qb f u) 43).new (w.1.size+1) (by simp) (Qb g v) 43);have HP:=jq (fun W (hb:Below w.1.size w W)=>Zjs u.pA v.pA u.pn v.pn u.pc v.pc f.picks g.picks W (hf.m.here hb).pk (hg.m.here hb).pk hf.pn hg.pn);have HO:=jq (fun W (hb:Below w.1.size w W)=>Zjt u.oA v.oA u.on v.on u.oc v.oc f.options g.options W (hf.m.here hb).op (hg.m.here hb).op hf.on hg.on);rw[ZhP f g];generalize decide (f.picks=g.picks)=bp at*;generalize decide (f.options=g.options)=bo at*;have x0:=H.out.c 1 0 rfl (show(Qb f u)[0]?=some (.string ⟨f.key.toArray⟩) from rfl);have y0:=H.out.c 0 0 rfl (show(Qb g v)[0]?=some (.string ⟨g.key.toArray⟩) from rfl);have x1:=H.out.c 1 1 rfl (show(Qb f u)[1]?=some (.int .i64 f.stamp) from rfl);have y1:=H.out.c 0 1 rfl (show(Qb g v)[1]?=some (.int .i64 g.stamp) from rfl);have x2:=H.out.c 1 2 rfl (show(Qb f u)[2]?=some (.bool f.cancelled) from rfl);have y2:=H.out.c 0 2 rfl (show(Qb g v)[2]?=some (.bool g.cancelled) from rfl);have x3:=H.out.c 1 3 rfl (show(Qb f u)[3]?=some (.int .i64 f.day) from rfl);have y3:=H.out.c 0 3 rfl (show(Qb g v)[3]?=some (.int .i64 g.day) from rfl);have x4:=H.out.c 1 4 rfl (show(Qb f u)[4]?=some (.int .i64 f.kind) from rfl);have y4:=H.out.c 0 4 rfl (show(Qb g v)[4]?=some (.int .i64 g.kind) from rfl);have x5:=H.out.c 1 5 rfl (show(Qb f u)[5]?=some (.string ⟨f.inst.toArray⟩) from rfl);have y5:=H.out.c 0 5 rfl (show(Qb g v)[5]?=some (.string ⟨g.inst.toArray⟩) from rfl);have x6:=H.out.c 1 6 rfl (show(Qb f u)[6]?=some (.string ⟨f.other.toArray⟩) from rfl);have y6:=H.out.c 0 6 rfl (show(Qb g v)[6]?=some (.string ⟨g.other.toArray⟩) from rfl);have x7:=H.out.c 1 7 rfl (show(Qb f u)[7]?=some (.string ⟨f.cur.toArray⟩) from rfl);have y7:=H.out.c 0 7 rfl (show(Qb g v)[7]?=some (.string ⟨g.cur.toArray⟩) from rfl);have x8:=H.out.c 1 8 rfl (show(Qb f u)[8]?=some (.string ⟨f.target.toArray⟩) from rfl);have y8:=H.out.c 0 8 rfl (show(Qb g v)[8]?=some (.string ⟨g.target.toArray⟩) from rfl);have x9:=H.out.c 1 9 rfl (show(Qb f u)[9]?=some (.string ⟨f.q.toArray⟩) from rfl);have y9:=H.out.c 0 9 rfl (show(Qb g v)[9]?=some (.string ⟨g.q.toArray⟩) from rfl);have x10:=H.out.c 1 10 rfl (show(Qb f u)[10]?=some (.string ⟨f.amount.toArray⟩) from rfl);have y10:=H.out.c 0 10 rfl (show(Qb g v)[10]?=some (.string ⟨g.amount.toArray⟩) from rfl);have x11:=H.out.c 1 11 rfl (show(Qb f u)[11]?=some (.string ⟨f.fee.toArray⟩) from rfl);have y11:=H.out.c 0 11 rfl (show(Qb g v)[11]?=some (.string ⟨g.fee.toArray⟩) from rfl);have x12:=H.out.c 1 12 rfl (show(Qb f u)[12]?=some (.string ⟨f.price.n.toArray⟩) from rfl);have y12:=H.out.c 0 12 rfl (show(Qb g v)[12]?=some (.string ⟨g.price.n.toArray⟩) from rfl);have x13:=H.out.c 1 13 rfl (show(Qb f u)[13]?=some (.string ⟨f.price.d.toArray⟩) from rfl);have y13:=H.out.c 0 13 rfl (show(Qb g v)[13]?=some (.string ⟨g.price.d.toArray⟩) from rfl);have x14:=H.out.c 1 14 rfl (show(Qb f u)[14]?=some (.string ⟨f.ratio.n.toArray⟩) from rfl);have y14:=H.out.c 0 14 rfl (show(Qb g v)[14]?=some (.string ⟨g.ratio.n.toArray⟩) from rfl);have x15:=H.out.c 1 15 rfl (show(Qb f u)[15]?=some (.string ⟨f.ratio.d.toArray⟩) from rfl);have y15:=H.out.c 0 15 rfl (show(Qb g v)[15]?=some (.string ⟨g.ratio.d.toArray⟩) from rfl);have x16:=H.out.c 1 16 rfl (show(Qb f u)[16]?=some (.string ⟨f.share.n.toArray⟩) from rfl);have y16:=H.out.c 0 16 rfl (show(Qb g v)[16]?=some (.string ⟨g.share.n.toArray⟩) from rfl);have x17:=H.out.c 1 17 rfl (show(Qb f u)[17]?=some (.string ⟨f.share.d.toArray⟩) from rfl);have y17:=H.out.c 0 17 rfl (show(Qb g v)[17]?=some (.string ⟨g.share.d.toArray⟩) from rfl);have x18:=H.out.c 1 18 rfl (show(Qb f u)[18]?=some (.slice u.pA u.pn u.pc) from rfl);have y18:=H.out.c 0 18 rfl (show(Qb g v)[18]?=some (.slice v.pA v.pn v.pc) from rfl);have x19:=H.out.c 1 19 rfl (show(Qb f u)[19]?=some (.slice u.oA u.on u.oc) from rfl);have y19:=H.out.c 0 19 rfl (show(Qb g v)[19]?=some (.slice v.oA v.on v.oc) from rfl);have x20:=H.out.c 1 20 rfl (show(Qb f u)[20]?=some (.int .i64 f.choice) from rfl);have y20:=H.out.c 0 20 rfl (show(Qb g v)[20]?=some (.int .i64 g.choice) from rfl);have X19:=jq (show(Qb f u)[19]?=some (.slice u.oA u.on u.oc) from rfl);have Y19:=jq (show(Qb g v)[19]?=some (.slice v.oA v.on v.oc) from rfl);have X20:=jq (show(Qb f u)[20]?=some (.int .i64 f.choice) from rfl);have Y20:=jq (show(Qb g v)[20]?=some (.int .i64 g.choice) from rfl);generalize Qb f u=fa at*;generalize Qb g v=fb at*;clear hp hf hg;go_enter Tryz.func35,Tryz.ntmps35
 go_upto_region 1 with (fail)
 generalize hW:(w.alloc (.cells fa 43)).alloc (.cells fb 43)=W at*;have HB:=jq H.out.bl;have HBW:=jq (fun W' (hb:Below W.1.size W W')=>(H.out.here hb).bl);clear hW
 go_wp2_with (first
  |(go_at_call 65;refine(HP.out _ HB.out).mono ?_;rintro e w1 ⟨rfl,hb1⟩;have HB1:=jq (HBW.out _ hb1);have x19b:=(H.out.here hb1).c 1 19 rfl X19.out;have y19b:=(H.out.here hb1).c 0 19 rfl Y19.out;cases bp)
  |(go_at_call 66;first
     |(refine(HO.out _ HB1.out).mono ?_;rintro e w2 ⟨rfl,hb2⟩;have HB2:=jq (HBW.out _ (hb1.trans (hb2.mono hb1.size)));have x20c:=((H.out.here hb1).here hb2).c 1 20 rfl X20.out;have y20c:=((H.out.here hb1).here hb2).c 0 20 rfl Y20.out;cases bo)))
 all_goals
  first|go_ret|skip
  refine⟨Qd ?_,by first|exact HB2.out|exact HB1.out|exact HB.out⟩;simp[*]
end
section
attribute [local go_sem] Oper.semAt_some
attribute [local go_sem ↓] Go.wp_at_zero Go.wp_at_succ Ql
def chn(f g:Fct)(u v:FaV):Prop:=f.key=g.key/\f.stamp=g.stamp/\f.cancelled=g.cancelled/\f.day=g.day/\f.kind=g.kind/\f.inst=g.inst/\f.other=g.other/\f.cur=g.cur/\f.target=g.target/\f.q=g.q/\f.amount=g.amount/\f.fee=g.fee/\f.price.n=g.price.n/\f.price.d=g.price.d/\f.ratio.n=g.ratio.n/\f.ratio.d=g.ratio.d/\f.share.n=g.share.n/\f.share.d=g.share.d/\f.choice=g.choice/\u.pn=v.pn/\u.on=v.on
theorem ZhQ(f g:Fct)(u v:FaV)(w:World)(hp:Env w)(hne:¬chn f g u v):
 Calls Tryz.prog 33 #[.agg (Qb f u),.agg (Qb g v)] w fun e w'=>e=.returned (.bool false)/\Below w.1.size w w':=by
 have H:=jq (((Kp.start hp).new w.1.size rfl (Qb f u) 43).new (w.1.size+1) (by simp) (Qb g v) 43);have HNE:=jq hne;have x0:=H.out.c 1 0 rfl (show(Qb f u)[0]?=some (.string ⟨f.key.toArray⟩) from rfl);have y0:=H.out.c 0 0 rfl (show(Qb g v)[0]?=some (.string ⟨g.key.toArray⟩) from rfl);have x1:=H.out.c 1 1 rfl (show(Qb f u)[1]?=some (.int .i64 f.stamp) from rfl);have y1:=H.out.c 0 1 rfl (show(Qb g v)[1]?=some (.int .i64 g.stamp) from rfl);have x2:=H.out.c 1 2 rfl (show(Qb f u)[2]?=some (.bool f.cancelled) from rfl);have y2:=H.out.c 0 2 rfl (show(Qb g v)[2]?=some (.bool g.cancelled) from rfl);have x3:=H.out.c 1 3 rfl (show(Qb f u)[3]?=some (.int .i64 f.day) from rfl);have y3:=H.out.c 0 3 rfl (show(Qb g v)[3]?=some (.int .i64 g.day) from rfl);have x4:=H.out.c 1 4 rfl (show(Qb f u)[4]?=some (.int .i64 f.kind) from rfl);have y4:=H.out.c 0 4 rfl (show(Qb g v)[4]?=some (.int .i64 g.kind) from rfl);have x5:=H.out.c 1 5 rfl (show(Qb f u)[5]?=some (.string ⟨f.inst.toArray⟩) from rfl);have y5:=H.out.c 0 5 rfl (show(Qb g v)[5]?=some (.string ⟨g.inst.toArray⟩) from rfl);have x6:=H.out.c 1 6 rfl (show(Qb f u)[6]?=some (.string ⟨f.other.toArray⟩) from rfl);have y6:=H.out.c 0 6 rfl (show(Qb g v)[6]?=some (.string ⟨g.other.toArray⟩) from rfl);have x7:=H.out.c 1 7 rfl (show(Qb f u)[7]?=some (.string ⟨f.cur.toArray⟩) from rfl);have y7:=H.out.c 0 7 rfl (show(Qb g v)[7]?=some (.string ⟨g.cur.toArray⟩) from rfl);have x8:=H.out.c 1 8 rfl (show(Qb f u)[8]?=some (.string ⟨f.target.toArray⟩) from rfl);have y8:=H.out.c 0 8 rfl (show(Qb g v)[8]?=some (.string ⟨g.target.toArray⟩) from rfl);have x9:=H.out.c 1 9 rfl (show(Qb f u)[9]?=some (.string ⟨f.q.toArray⟩) from rfl);have y9:=H.out.c 0 9 rfl (show(Qb g v)[9]?=some (.string ⟨g.q.toArray⟩) from rfl);have x10:=H.out.c 1 10 rfl (show(Qb f u)[10]?=some (.string ⟨f.amount.toArray⟩) from rfl);have y10:=H.out.c 0 10 rfl (show(Qb g v)[10]?=some (.string ⟨g.amount.toArray⟩) from rfl);have x11:=H.out.c 1 11 rfl (show(Qb f u)[11]?=some (.string ⟨f.fee.toArray⟩) from rfl);have y11:=H.out.c 0 11 rfl (show(Qb g v)[11]?=some (.string ⟨g.fee.toArray⟩) from rfl);have x12:=H.out.c 1 12 rfl (show(Qb f u)[12]?=some (.string ⟨f.price.n.toArray⟩) from rfl);have y12:=H.out.c 0 12 rfl (show(Qb g v)[12]?=some (.string ⟨g.price.n.toArray⟩) from rfl);have x13:=H.out.c 1 13 rfl (show(Qb f u)[13]?=some (.string ⟨f.price.d.toArray⟩) from rfl);have y13:=H.out.c 0 13 rfl (show(Qb g v)[13]?=some (.string ⟨g.price.d.toArray⟩) from rfl);have x14:=H.out.c 1 14 rfl (show(Qb f u)[14]?=some (.string ⟨f.ratio.n.toArray⟩) from rfl);have y14:=H.out.c 0 14 rfl (show(Qb g v)[14]?=some (.string ⟨g.ratio.n.toArray⟩) from rfl);have x15:=H.out.c 1 15 rfl (show(Qb f u)[15]?=some (.string ⟨f.ratio.d.toArray⟩) from rfl);have y15:=H.out.c 0 15 rfl (show(Qb g v)[15]?=some (.string ⟨g.ratio.d.toArray⟩) from rfl);have x16:=H.out.c 1 16 rfl (show(Qb f u)[16]?=some (.string ⟨f.share.n.toArray⟩) from rfl);have y16:=H.out.c 0 16 rfl (show(Qb g v)[16]?=some (.string ⟨g.share.n.toArray⟩) from rfl);have x17:=H.out.c 1 17 rfl (show(Qb f u)[17]?=some (.string ⟨f.share.d.toArray⟩) from rfl);have y17:=H.out.c 0 17 rfl (show(Qb g v)[17]?=some (.string ⟨g.share.d.toArray⟩) from rfl);have x18:=H.out.c 1 18 rfl (show(Qb f u)[18]?=some (.slice u.pA u.pn u.pc) from rfl);have y18:=H.out.c 0 18 rfl (show(Qb g v)[18]?=some (.slice v.pA v.pn v.pc) from rfl);have x19:=H.out.c 1 19 rfl (show(Qb f u)[19]?=some (.slice u.oA u.on u.oc) from rfl);have y19:=H.out.c 0 19 rfl (show(Qb g v)[19]?=some (.slice v.oA v.on v.oc) from rfl);have x20:=H.out.c 1 20 rfl (show(Qb f u)[20]?=some (.int .i64 f.choice) from rfl);have y20:=H.out.c 0 20 rfl (show(Qb g v)[20]?=some (.int .i64 g.choice) from rfl);generalize Qb f u=fa at*;generalize Qb g v=fb at*;clear hp hne;go_enter Tryz.func33,Tryz.ntmps33
 go_upto_region 1 with (fail)
 generalize hW:(w.alloc (.cells fa 43)).alloc (.cells fb 43)=W at*;have HB:=jq H.out.bl;clear hW;go_wp2_with fail
 all_goals first
  |(go_ret;exact⟨rfl,HB.out⟩)
  |skip
 have q0:f.key=g.key:=by assumption
 have q1:f.stamp=g.stamp:=by assumption
 have q2:f.cancelled=g.cancelled:=by assumption
 have q3:f.day=g.day:=by assumption
 have q4:f.kind=g.kind:=by assumption
 have q5:f.inst=g.inst:=by assumption
 have q6:f.other=g.other:=by assumption
 have q7:f.cur=g.cur:=by assumption
 have q8:f.target=g.target:=by assumption
 have q9:f.q=g.q:=by assumption
 have q10:f.amount=g.amount:=by assumption
 have q11:f.fee=g.fee:=by assumption
 have q12:f.price.n=g.price.n:=by assumption
 have q13:f.price.d=g.price.d:=by assumption
 have q14:f.ratio.n=g.ratio.n:=by assumption
 have q15:f.ratio.d=g.ratio.d:=by assumption
 have q16:f.share.n=g.share.n:=by assumption
 have q17:f.share.d=g.share.d:=by assumption
 have qc:(f.choice !=g.choice)=false:=by assumption
 have qp:(u.pn:Int)=(v.pn:Int):=by assumption
 have qo:((u.on:Int) !=(v.on:Int))=false:=by assumption
 have qo':(u.on:Int)=(v.on:Int):=by simpa using qo
 exact absurd (show chn f g u v from⟨q0,q1,q2,q3,q4,q5,q6,q7,q8,q9,q10,q11,q12,q13,q14,q15,q16,q17,by simpa using qc,by omega,by omega⟩) HNE.out
end
section
attribute [local go_sem] Oper.semAt_some
attribute [local go_sem ↓] Go.wp_at_zero Go.wp_at_succ Ql
theorem ZhR(f:Fct)(mp:List Pk)(mo:List Opn)(u v:FaV)(w:World)(hp:Env w)(hf:FxM w w.1.size (f,u))(hg:v.pn=u.pn/\v.on=u.on)(h2:Pks w w.1.size v.pA v.pn mp/\Ops w w.1.size v.oA v.on mo)(hne:f.picks≠mp):
 Calls Tryz.prog 33 #[.agg (Qb f u),.agg (Qb ({f with picks:=mp,options:=mo}) v)] w fun e w'=>e=.returned (.bool false)/\Below w.1.size w w':=by
 have hnb:=hf.pn;have hob:=hf.on;have e1:=hg.1;have e2:=hg.2
 dsimp only at hnb hob
 have H:=jq (((Kp.start hp).new w.1.size rfl (Qb f u) 43).new (w.1.size+1) (by simp) (Qb ({f with picks:=mp,options:=mo}) v) 43);have HP1:=jq hf.m.pk;have HO1:=jq hf.m.op;have HP2:=jq h2.1;have HO2:=jq h2.2;have x0:=H.out.c 1 0 rfl (show(Qb f u)[0]?=some (.string ⟨f.key.toArray⟩) from rfl);have y0:=H.out.c 0 0 rfl (show(Qb ({f with picks:=mp,options:=mo}) v)[0]?=some (.string ⟨f.key.toArray⟩) from rfl);have x1:=H.out.c 1 1 rfl (show(Qb f u)[1]?=some (.int .i64 f.stamp) from rfl);have y1:=H.out.c 0 1 rfl (show(Qb ({f with picks:=mp,options:=mo}) v)[1]?=some (.int .i64 f.stamp) from rfl);have x2:=H.out.c 1 2 rfl (show(Qb f u)[2]?=some (.bool f.cancelled) from rfl);have y2:=H.out.c 0 2 rfl (show(Qb ({f with picks:=mp,options:=mo}) v)[2]?=some (.bool f.cancelled) from rfl);have x3:=H.out.c 1 3 rfl (show(Qb f u)[3]?=some (.int .i64 f.day) from rfl);have y3:=H.out.c 0 3 rfl (show(Qb ({f with picks:=mp,options:=mo}) v)[3]?=some (.int .i64 f.day) from rfl);have x4:=H.out.c 1 4 rfl (show(Qb f u)[4]?=some (.int .i64 f.kind) from rfl);have y4:=H.out.c 0 4 rfl (show(Qb ({f with picks:=mp,options:=mo}) v)[4]?=some (.int .i64 f.kind) from rfl);have x5:=H.out.c 1 5 rfl (show(Qb f u)[5]?=some (.string ⟨f.inst.toArray⟩) from rfl);have y5:=H.out.c 0 5 rfl (show(Qb ({f with picks:=mp,options:=mo}) v)[5]?=some (.string ⟨f.inst.toArray⟩) from rfl);have x6:=H.out.c 1 6 rfl (show(Qb f u)[6]?=some (.string ⟨f.other.toArray⟩) from rfl);have y6:=H.out.c 0 6 rfl (show(Qb ({f with picks:=mp,options:=mo}) v)[6]?=some (.string ⟨f.other.toArray⟩) from rfl);have x7:=H.out.c 1 7 rfl (show(Qb f u)[7]?=some (.string ⟨f.cur.toArray⟩) from rfl);have y7:=H.out.c 0 7 rfl (show(Qb ({f with picks:=mp,options:=mo}) v)[7]?=some (.string ⟨f.cur.toArray⟩) from rfl);have x8:=H.out.c 1 8 rfl (show(Qb f u)[8]?=some (.string ⟨f.target.toArray⟩) from rfl);have y8:=H.out.c 0 8 rfl (show(Qb ({f with picks:=mp,options:=mo}) v)[8]?=some (.string ⟨f.target.toArray⟩) from rfl);have x9:=H.out.c 1 9 rfl (show(Qb f u)[9]?=some (.string ⟨f.q.toArray⟩) from rfl);have y9:=H.out.c 0 9 rfl (show(Qb ({f with picks:=mp,options:=mo}) v)[9]?=some (.string ⟨f.q.toArray⟩) from rfl);have x10:=H.out.c 1 10 rfl (show(Qb f u)[10]?=some (.string ⟨f.amount.toArray⟩) from rfl);have y10:=H.out.c 0 10 rfl (show(Qb ({f with picks:=mp,options:=mo}) v)[10]?=some (.string ⟨f.amount.toArray⟩) from rfl);have x11:=H.out.c 1 11 rfl (show(Qb f u)[11]?=some (.string ⟨f.fee.toArray⟩) from rfl);have y11:=H.out.c 0 11 rfl (show(Qb ({f with picks:=mp,options:=mo}) v)[11]?=some (.string ⟨f.fee.toArray⟩) from rfl);have x12:=H.out.c 1 12 rfl (show(Qb f u)[12]?=some (.string ⟨f.price.n.toArray⟩) from rfl);have y12:=H.out.c 0 12 rfl (show(Qb ({f with picks:=mp,options:=mo}) v)[12]?=some (.string ⟨f.price.n.toArray⟩) from rfl);have x13:=H.out.c 1 13 rfl (show(Qb f u)[13]?=some (.string ⟨f.price.d.toArray⟩) from rfl);have y13:=H.out.c 0 13 rfl (show(Qb ({f with picks:=mp,options:=mo}) v)[13]?=some (.string ⟨f.price.d.toArray⟩) from rfl);have x14:=H.out.c 1 14 rfl (show(Qb f u)[14]?=some (.string ⟨f.ratio.n.toArray⟩) from rfl);have y14:=H.out.c 0 14 rfl (show(Qb ({f with picks:=mp,options:=mo}) v)[14]?=some (.string ⟨f.ratio.n.toArray⟩) from rfl);have x15:=H.out.c 1 15 rfl (show(Qb f u)[15]?=some (.string ⟨f.ratio.d.toArray⟩) from rfl);have y15:=H.out.c 0 15 rfl (show(Qb ({f with picks:=mp,options:=mo}) v)[15]?=some (.string ⟨f.ratio.d.toArray⟩) from rfl);have x16:=H.out.c 1 16 rfl (show(Qb f u)[16]?=some (.string ⟨f.share.n.toArray⟩) from rfl);have y16:=H.out.c 0 16 rfl (show(Qb ({f with picks:=mp,options:=mo}) v)[16]?=some (.string ⟨f.share.n.toArray⟩) from rfl);have x17:=H.out.c 1 17 rfl (show(Qb f u)[17]?=some (.string ⟨f.share.d.toArray⟩) from rfl);have y17:=H.out.c 0 17 rfl (show(Qb ({f with picks:=mp,options:=mo}) v)[17]?=some (.string ⟨f.share.d.toArray⟩) from rfl);have x18:=H.out.c 1 18 rfl (show(Qb f u)[18]?=some (.slice u.pA u.pn u.pc) from rfl);have y18:=H.out.c 0 18 rfl (show(Qb ({f with picks:=mp,options:=mo}) v)[18]?=some (.slice v.pA v.pn v.pc) from rfl);have x19:=H.out.c 1 19 rfl (show(Qb f u)[19]?=some (.slice u.oA u.on u.oc) from rfl);have y19:=H.out.c 0 19 rfl (show(Qb ({f with picks:=mp,options:=mo}) v)[19]?=some (.slice v.oA v.on v.oc) from rfl);have x20:=H.out.c 1 20 rfl (show(Qb f u)[20]?=some (.int .i64 f.choice) from rfl);have y20:=H.out.c 0 20 rfl (show(Qb ({f with picks:=mp,options:=mo}) v)[20]?=some (.int .i64 f.choice) from rfl);have X18:=jq (show(Qb f u)[18]?=some (.slice u.pA u.pn u.pc) from rfl);have Y18:=jq (show(Qb ({f with picks:=mp,options:=mo}) v)[18]?=some (.slice v.pA v.pn v.pc) from rfl);have X19:=jq (show(Qb f u)[19]?=some (.slice u.oA u.on u.oc) from rfl);have Y19:=jq (show(Qb ({f with picks:=mp,options:=mo}) v)[19]?=some (.slice v.oA v.on v.oc) from rfl);generalize Qb f u=fa at*;generalize Qb ({f with picks:=mp,options:=mo}) v=fb at*;clear hp hf hg h2;obtain⟨Ap,np',cp,Ao,no',co⟩:=u
 obtain⟨Aq,np,dp,Ar,no,do_⟩:=v
 dsimp only at*
 subst e1 e2
 obtain⟨lp,hlp⟩:∃l,f.picks=l:=⟨_,rfl⟩
 obtain⟨lo,hlo⟩:∃l,f.options=l:=⟨_,rfl⟩
 rw[hlp] at HP1;rw[hlo] at HO1
 have HNE:=jq (show lp≠mp from hlp▸hne);clear hlp hlo hne;go_enter Tryz.func33,Tryz.ntmps33
 go_wp2_with fail
 go_loopw [5] (fun j wr=>∃k:Nat,k<=np/\j=.int .i64 k/\Hid (Kp w [(w.1.size+1,fb,43),(w.1.size,fa,43)] wr)/\Hid (lp.take k=mp.take k)) (fun j _=>np-(intOf j).toNat)
 case atStart=>exact⟨0,Nat.zero_le _,rfl,H,rfl⟩
 case round=>
  clear H x0 x1 x2 x3 x4 x5 x6 x7 x8 x9 x10 x11 x12 x13 x14 x15 x16 x17 x18 x19 x20 y0 y1 y2 y3 y4 y5 y6 y7 y8 y9 y10 y11 y12 y13 y14 y15 y16 y17 y18 y19 y20;obtain⟨k,hk,rfl,H,HE⟩:=hrel
  have cx:=H.out.c 1 18 rfl X18.out;have cy:=H.out.c 0 18 rfl Y18.out
  by_cases hlt:k<np
  ·obtain⟨b,off,y,rfl,hb,hy,d0,d1⟩:=(HP1.out.here H.out.bl).pk hlt
   obtain⟨b2,off2,z,rfl,hb2,hz,e0,e1⟩:=(HP2.out.here H.out.bl).pk hlt
   have i1:(0:Int)<=(k:Int):=by omega
   have i2:(k:Int)<(np:Int):=by omega
   by_cases hyz:y=z
   ·subst hyz;have HE2:=jq (Zaw HE.out hy hz);clear hy hz hb hb2;unfold S at*
    go_upto_region 8 with (fail)
    go_region_held3 (fun X=>X.cell? ⟨w.1.size,18,none⟩=some (.slice (some ⟨b,off,none⟩) np cp)/\X.cell? ⟨w.1.size+1,18,none⟩=some (.slice (some ⟨b2,off2,none⟩) np dp)/\X.cell? ⟨b,off+k*2,none⟩=some (.string ⟨y.lot.toArray⟩)/\X.cell? ⟨b,off+k*2+1,none⟩=some (.string ⟨y.q.toArray⟩)/\X.cell? ⟨b2,off2+k*2,none⟩=some (.string ⟨y.lot.toArray⟩)/\X.cell? ⟨b2,off2+k*2+1,none⟩=some (.string ⟨y.q.toArray⟩)) (go_keep) (fail)
    all_goals
     go_wp2_with fail
     go_roundw
     case rel=>exact⟨k+1,by omega,by go_num,H.out.drew,HE2.out⟩
     case measure=>simp[intOf];omega
   ·clear hy hz hb hb2;unfold S at*
    have hd:y.lot≠z.lot\/y.q≠z.q:=by
     obtain⟨y1,y2⟩:=y
     obtain⟨z1,z2⟩:=z
     simp only[Pk.mk.injEq,ne_eq] at hyz ⊢;simpa only[Classical.not_and_iff_not_or_not,or_assoc] using hyz
    clear hyz
    rcases hd with hd|hd
    all_goals
     have hd2:=beq_false_of_ne hd;clear hd;go_upto_region 8 with (fail)
     go_region_held3 (fun X=>X.cell? ⟨w.1.size,18,none⟩=some (.slice (some ⟨b,off,none⟩) np cp)/\X.cell? ⟨w.1.size+1,18,none⟩=some (.slice (some ⟨b2,off2,none⟩) np dp)/\X.cell? ⟨b,off+k*2,none⟩=some (.string ⟨y.lot.toArray⟩)/\X.cell? ⟨b,off+k*2+1,none⟩=some (.string ⟨y.q.toArray⟩)/\X.cell? ⟨b2,off2+k*2,none⟩=some (.string ⟨z.lot.toArray⟩)/\X.cell? ⟨b2,off2+k*2+1,none⟩=some (.string ⟨z.q.toArray⟩)) (go_keep) (fail)
     all_goals
      go_wp2_with fail
      first|go_ret|skip
      exact⟨rfl,H.out.drew.bl⟩
  ·obtain rfl:k=np:=by omega
   exact absurd (by have h:=HE.out;rwa [List.take_of_length_le (by rw[<-HP1.out.1];exact Nat.le_refl _),List.take_of_length_le (by rw[<-HP2.out.1];exact Nat.le_refl _)] at h) HNE.out
end
section
attribute [local go_sem] Oper.semAt_some
attribute [local go_sem ↓] Go.wp_at_zero Go.wp_at_succ Ql
theorem ZhS(f:Fct)(mp:List Pk)(mo:List Opn)(u v:FaV)(w:World)(hp:Env w)(hf:FxM w w.1.size (f,u))(hg:v.pn=u.pn/\v.on=u.on)(h2:Pks w w.1.size v.pA v.pn mp/\Ops w w.1.size v.oA v.on mo)(heq:f.picks=mp):
 Calls Tryz.prog 33 #[.agg (Qb f u),.agg (Qb ({f with picks:=mp,options:=mo}) v)] w fun e w'=>e=.returned (.bool (decide (f.options=mo)))/\Below w.1.size w w':=by
 have hnb:=hf.pn;have hob:=hf.on;have e1:=hg.1;have e2:=hg.2
 dsimp only at hnb hob
 have H:=jq (((Kp.start hp).new w.1.size rfl (Qb f u) 43).new (w.1.size+1) (by simp) (Qb ({f with picks:=mp,options:=mo}) v) 43);have HP1:=jq hf.m.pk;have HO1:=jq hf.m.op;have HP2:=jq h2.1;have HO2:=jq h2.2;have x0:=H.out.c 1 0 rfl (show(Qb f u)[0]?=some (.string ⟨f.key.toArray⟩) from rfl);have y0:=H.out.c 0 0 rfl (show(Qb ({f with picks:=mp,options:=mo}) v)[0]?=some (.string ⟨f.key.toArray⟩) from rfl);have x1:=H.out.c 1 1 rfl (show(Qb f u)[1]?=some (.int .i64 f.stamp) from rfl);have y1:=H.out.c 0 1 rfl (show(Qb ({f with picks:=mp,options:=mo}) v)[1]?=some (.int .i64 f.stamp) from rfl);have x2:=H.out.c 1 2 rfl (show(Qb f u)[2]?=some (.bool f.cancelled) from rfl);have y2:=H.out.c 0 2 rfl (show(Qb ({f with picks:=mp,options:=mo}) v)[2]?=some (.bool f.cancelled) from rfl);have x3:=H.out.c 1 3 rfl (show(Qb f u)[3]?=some (.int .i64 f.day) from rfl);have y3:=H.out.c 0 3 rfl (show(Qb ({f with picks:=mp,options:=mo}) v)[3]?=some (.int .i64 f.day) from rfl);have x4:=H.out.c 1 4 rfl (show(Qb f u)[4]?=some (.int .i64 f.kind) from rfl);have y4:=H.out.c 0 4 rfl (show(Qb ({f with picks:=mp,options:=mo}) v)[4]?=some (.int .i64 f.kind) from rfl);have x5:=H.out.c 1 5 rfl (show(Qb f u)[5]?=some (.string ⟨f.inst.toArray⟩) from rfl);have y5:=H.out.c 0 5 rfl (show(Qb ({f with picks:=mp,options:=mo}) v)[5]?=some (.string ⟨f.inst.toArray⟩) from rfl);have x6:=H.out.c 1 6 rfl (show(Qb f u)[6]?=some (.string ⟨f.other.toArray⟩) from rfl);have y6:=H.out.c 0 6 rfl (show(Qb ({f with picks:=mp,options:=mo}) v)[6]?=some (.string ⟨f.other.toArray⟩) from rfl);have x7:=H.out.c 1 7 rfl (show(Qb f u)[7]?=some (.string ⟨f.cur.toArray⟩) from rfl);have y7:=H.out.c 0 7 rfl (show(Qb ({f with picks:=mp,options:=mo}) v)[7]?=some (.string ⟨f.cur.toArray⟩) from rfl);have x8:=H.out.c 1 8 rfl (show(Qb f u)[8]?=some (.string ⟨f.target.toArray⟩) from rfl);have y8:=H.out.c 0 8 rfl (show(Qb ({f with picks:=mp,options:=mo}) v)[8]?=some (.string ⟨f.target.toArray⟩) from rfl);have x9:=H.out.c 1 9 rfl (show(Qb f u)[9]?=some (.string ⟨f.q.toArray⟩) from rfl);have y9:=H.out.c 0 9 rfl (show(Qb ({f with picks:=mp,options:=mo}) v)[9]?=some (.string ⟨f.q.toArray⟩) from rfl);have x10:=H.out.c 1 10 rfl (show(Qb f u)[10]?=some (.string ⟨f.amount.toArray⟩) from rfl);have y10:=H.out.c 0 10 rfl (show(Qb ({f with picks:=mp,options:=mo}) v)[10]?=some (.string ⟨f.amount.toArray⟩) from rfl);have x11:=H.out.c 1 11 rfl (show(Qb f u)[11]?=some (.string ⟨f.fee.toArray⟩) from rfl);have y11:=H.out.c 0 11 rfl (show(Qb ({f with picks:=mp,options:=mo}) v)[11]?=some (.string ⟨f.fee.toArray⟩) from rfl);have x12:=H.out.c 1 12 rfl (show(Qb f u)[12]?=some (.string ⟨f.price.n.toArray⟩) from rfl);have y12:=H.out.c 0 12 rfl (show(Qb ({f with picks:=mp,options:=mo}) v)[12]?=some (.string ⟨f.price.n.toArray⟩) from rfl);have x13:=H.out.c 1 13 rfl (show(Qb f u)[13]?=some (.string ⟨f.price.d.toArray⟩) from rfl);have y13:=H.out.c 0 13 rfl (show(Qb ({f with picks:=mp,options:=mo}) v)[13]?=some (.string ⟨f.price.d.toArray⟩) from rfl);have x14:=H.out.c 1 14 rfl (show(Qb f u)[14]?=some (.string ⟨f.ratio.n.toArray⟩) from rfl);have y14:=H.out.c 0 14 rfl (show(Qb ({f with picks:=mp,options:=mo}) v)[14]?=some (.string ⟨f.ratio.n.toArray⟩) from rfl);have x15:=H.out.c 1 15 rfl (show(Qb f u)[15]?=some (.string ⟨f.ratio.d.toArray⟩) from rfl);have y15:=H.out.c 0 15 rfl (show(Qb ({f with picks:=mp,options:=mo}) v)[15]?=some (.string ⟨f.ratio.d.toArray⟩) from rfl);have x16:=H.out.c 1 16 rfl (show(Qb f u)[16]?=some (.string ⟨f.share.n.toArray⟩) from rfl);have y16:=H.out.c 0 16 rfl (show(Qb ({f with picks:=mp,options:=mo}) v)[16]?=some (.string ⟨f.share.n.toArray⟩) from rfl);have x17:=H.out.c 1 17 rfl (show(Qb f u)[17]?=some (.string ⟨f.share.d.toArray⟩) from rfl);have y17:=H.out.c 0 17 rfl (show(Qb ({f with picks:=mp,options:=mo}) v)[17]?=some (.string ⟨f.share.d.toArray⟩) from rfl);have x18:=H.out.c 1 18 rfl (show(Qb f u)[18]?=some (.slice u.pA u.pn u.pc) from rfl);have y18:=H.out.c 0 18 rfl (show(Qb ({f with picks:=mp,options:=mo}) v)[18]?=some (.slice v.pA v.pn v.pc) from rfl);have x19:=H.out.c 1 19 rfl (show(Qb f u)[19]?=some (.slice u.oA u.on u.oc) from rfl);have y19:=H.out.c 0 19 rfl (show(Qb ({f with picks:=mp,options:=mo}) v)[19]?=some (.slice v.oA v.on v.oc) from rfl);have x20:=H.out.c 1 20 rfl (show(Qb f u)[20]?=some (.int .i64 f.choice) from rfl);have y20:=H.out.c 0 20 rfl (show(Qb ({f with picks:=mp,options:=mo}) v)[20]?=some (.int .i64 f.choice) from rfl);have X18:=jq (show(Qb f u)[18]?=some (.slice u.pA u.pn u.pc) from rfl);have Y18:=jq (show(Qb ({f with picks:=mp,options:=mo}) v)[18]?=some (.slice v.pA v.pn v.pc) from rfl);have X19:=jq (show(Qb f u)[19]?=some (.slice u.oA u.on u.oc) from rfl);have Y19:=jq (show(Qb ({f with picks:=mp,options:=mo}) v)[19]?=some (.slice v.oA v.on v.oc) from rfl);generalize Qb f u=fa at*;generalize Qb ({f with picks:=mp,options:=mo}) v=fb at*;clear hp hf hg h2;obtain⟨Ap,np',cp,Ao,no',co⟩:=u
 obtain⟨Aq,np,dp,Ar,no,do_⟩:=v
 dsimp only at*
 subst e1 e2
 obtain⟨lp,hlp⟩:∃l,f.picks=l:=⟨_,rfl⟩
 obtain⟨lo,hlo⟩:∃l,f.options=l:=⟨_,rfl⟩
 rw[hlp] at HP1;rw[hlo] at HO1
 obtain rfl:lp=mp:=hlp▸heq;rw[hlo];generalize hbo:decide (lo=mo)=bo;have HBO:=jq hbo;clear hlp hlo heq hbo;go_enter Tryz.func33,Tryz.ntmps33
 go_wp2_with fail
 go_loopw [5] (fun j wr=>∃k:Nat,k<=np/\j=.int .i64 k/\Hid (Kp w [(w.1.size+1,fb,43),(w.1.size,fa,43)] wr)) (fun j _=>np-(intOf j).toNat)
 case atStart=>exact⟨0,Nat.zero_le _,rfl,H⟩
 case round=>
  clear H x0 x1 x2 x3 x4 x5 x6 x7 x8 x9 x10 x11 x12 x13 x14 x15 x16 x17 x18 x19 x20 y0 y1 y2 y3 y4 y5 y6 y7 y8 y9 y10 y11 y12 y13 y14 y15 y16 y17 y18 y19 y20;obtain⟨k,hk,rfl,H⟩:=hrel
  have cx:=H.out.c 1 18 rfl X18.out;have cy:=H.out.c 0 18 rfl Y18.out
  by_cases hlt:k<np
  ·obtain⟨b,off,y,rfl,hb,hy,d0,d1⟩:=(HP1.out.here H.out.bl).pk hlt
   obtain⟨b2,off2,z,rfl,hb2,hz,e0,e1⟩:=(HP2.out.here H.out.bl).pk hlt
   have i1:(0:Int)<=(k:Int):=by omega
   have i2:(k:Int)<(np:Int):=by omega
   obtain rfl:z=y:=by rw[hy] at hz;exact(Option.some.inj hz).symm
   clear hy hz hb hb2;unfold S at*
   go_upto_region 8 with (fail)
   go_region_held3 (fun X=>X.cell? ⟨w.1.size,18,none⟩=some (.slice (some ⟨b,off,none⟩) np cp)/\X.cell? ⟨w.1.size+1,18,none⟩=some (.slice (some ⟨b2,off2,none⟩) np dp)/\X.cell? ⟨b,off+k*2,none⟩=some (.string ⟨z.lot.toArray⟩)/\X.cell? ⟨b,off+k*2+1,none⟩=some (.string ⟨z.q.toArray⟩)/\X.cell? ⟨b2,off2+k*2,none⟩=some (.string ⟨z.lot.toArray⟩)/\X.cell? ⟨b2,off2+k*2+1,none⟩=some (.string ⟨z.q.toArray⟩)) (go_keep) (fail)
   all_goals
    go_wp2_with fail
    go_roundw
    case rel=>exact⟨k+1,by omega,by go_num,H.out.drew⟩
    case measure=>simp[intOf];omega
  ·obtain rfl:k=np:=by omega
   go_wp2_with fail
   go_loopw [6] (fun j wr=>∃k:Nat,k<=no/\j=.int .i64 k/\Hid (Kp w [(w.1.size+1,fb,43),(w.1.size,fa,43)] wr)/\Hid (lo.take k=mo.take k)) (fun j _=>no-(intOf j).toNat)
   case atStart=>exact⟨0,Nat.zero_le _,rfl,H,rfl⟩
   case round=>
    clear H;obtain⟨k,hk,rfl,H,HE⟩:=hrel
    have cx:=H.out.c 1 19 rfl X19.out;have cy:=H.out.c 0 19 rfl Y19.out
    by_cases hlt:k<no
    ·obtain⟨b,off,y,rfl,hb,hy,d0,d1,d2,d3,d4,d5,d6⟩:=(HO1.out.here H.out.bl).opt hlt
     obtain⟨b2,off2,z,rfl,hb2,hz,e0,e1,e2,e3,e4,e5,e6⟩:=(HO2.out.here H.out.bl).opt hlt
     have i1:(0:Int)<=(k:Int):=by omega
     have i2:(k:Int)<(no:Int):=by omega
     by_cases hyz:y=z
     ·subst hyz;have HE2:=jq (Zaw HE.out hy hz);clear hy hz hb hb2;unfold S at*
      go_upto_region 13 with (fail)
      go_region_held3 (fun X=>X.cell? ⟨w.1.size,19,none⟩=some (.slice (some ⟨b,off,none⟩) no co)/\X.cell? ⟨w.1.size+1,19,none⟩=some (.slice (some ⟨b2,off2,none⟩) no do_)/\X.cell? ⟨b,off+k*7,none⟩=some (.string ⟨y.other.toArray⟩)/\X.cell? ⟨b,off+k*7+1,none⟩=some (.string ⟨y.ratio.n.toArray⟩)/\X.cell? ⟨b,off+k*7+2,none⟩=some (.string ⟨y.ratio.d.toArray⟩)/\X.cell? ⟨b,off+k*7+3,none⟩=some (.string ⟨y.price.n.toArray⟩)/\X.cell? ⟨b,off+k*7+4,none⟩=some (.string ⟨y.price.d.toArray⟩)/\X.cell? ⟨b,off+k*7+5,none⟩=some (.string ⟨y.value.n.toArray⟩)/\X.cell? ⟨b,off+k*7+6,none⟩=some (.string ⟨y.value.d.toArray⟩)/\X.cell? ⟨b2,off2+k*7,none⟩=some (.string ⟨y.other.toArray⟩)/\X.cell? ⟨b2,off2+k*7+1,none⟩=some (.string ⟨y.ratio.n.toArray⟩)/\X.cell? ⟨b2,off2+k*7+2,none⟩=some (.string ⟨y.ratio.d.toArray⟩)/\X.cell? ⟨b2,off2+k*7+3,none⟩=some (.string ⟨y.price.n.toArray⟩)/\X.cell? ⟨b2,off2+k*7+4,none⟩=some (.string ⟨y.price.d.toArray⟩)/\X.cell? ⟨b2,off2+k*7+5,none⟩=some (.string ⟨y.value.n.toArray⟩)/\X.cell? ⟨b2,off2+k*7+6,none⟩=some (.string ⟨y.value.d.toArray⟩)) (go_keep) (fail)
      all_goals
       go_wp2_with fail
       go_roundw
       case rel=>exact⟨k+1,by omega,by go_num,H.out.drew,HE2.out⟩
       case measure=>simp[intOf];omega
     ·have HNE:=jq (show bo=false from HBO.out▸decide_eq_false fun e=>hyz (by rw[e,hz] at hy;injection hy with hy;exact hy.symm));clear hy hz hb hb2;unfold S at*
      have hd:y.other≠z.other\/y.ratio.n≠z.ratio.n\/y.ratio.d≠z.ratio.d\/y.price.n≠z.price.n\/y.price.d≠z.price.d\/y.value.n≠z.value.n\/y.value.d≠z.value.d:=by
       obtain⟨y1,⟨y2,y3⟩,⟨y4,y5⟩,⟨y6,y7⟩⟩:=y
       obtain⟨z1,⟨z2,z3⟩,⟨z4,z5⟩,⟨z6,z7⟩⟩:=z
       simp only[Opn.mk.injEq,Fr.mk.injEq,ne_eq] at hyz ⊢;simpa only[Classical.not_and_iff_not_or_not,or_assoc] using hyz
      clear hyz
      rcases hd with hd|hd|hd|hd|hd|hd|hd
      all_goals
       have hd2:=beq_false_of_ne hd;clear hd;go_upto_region 13 with (fail)
       go_region_held3 (fun X=>X.cell? ⟨w.1.size,19,none⟩=some (.slice (some ⟨b,off,none⟩) no co)/\X.cell? ⟨w.1.size+1,19,none⟩=some (.slice (some ⟨b2,off2,none⟩) no do_)/\X.cell? ⟨b,off+k*7,none⟩=some (.string ⟨y.other.toArray⟩)/\X.cell? ⟨b,off+k*7+1,none⟩=some (.string ⟨y.ratio.n.toArray⟩)/\X.cell? ⟨b,off+k*7+2,none⟩=some (.string ⟨y.ratio.d.toArray⟩)/\X.cell? ⟨b,off+k*7+3,none⟩=some (.string ⟨y.price.n.toArray⟩)/\X.cell? ⟨b,off+k*7+4,none⟩=some (.string ⟨y.price.d.toArray⟩)/\X.cell? ⟨b,off+k*7+5,none⟩=some (.string ⟨y.value.n.toArray⟩)/\X.cell? ⟨b,off+k*7+6,none⟩=some (.string ⟨y.value.d.toArray⟩)/\X.cell? ⟨b2,off2+k*7,none⟩=some (.string ⟨z.other.toArray⟩)/\X.cell? ⟨b2,off2+k*7+1,none⟩=some (.string ⟨z.ratio.n.toArray⟩)/\X.cell? ⟨b2,off2+k*7+2,none⟩=some (.string ⟨z.ratio.d.toArray⟩)/\X.cell? ⟨b2,off2+k*7+3,none⟩=some (.string ⟨z.price.n.toArray⟩)/\X.cell? ⟨b2,off2+k*7+4,none⟩=some (.string ⟨z.price.d.toArray⟩)/\X.cell? ⟨b2,off2+k*7+5,none⟩=some (.string ⟨z.value.n.toArray⟩)/\X.cell? ⟨b2,off2+k*7+6,none⟩=some (.string ⟨z.value.d.toArray⟩)) (go_keep) (fail)
       all_goals
        go_wp2_with fail
        first|go_ret|skip
        exact⟨Qd HNE.out.symm,H.out.drew.bl⟩
    ·obtain rfl:k=no:=by omega
     have HT2:=jq (show bo=true from HBO.out▸decide_eq_true (by have h:=HE.out;rwa [List.take_of_length_le (by rw[<-HO1.out.1];exact Nat.le_refl _),List.take_of_length_le (by rw[<-HO2.out.1];exact Nat.le_refl _)] at h));go_wp2_with fail
     first|go_ret|skip
     exact⟨Qd HT2.out.symm,H.out.bl⟩
end
section
theorem Zm3{f g:Fct}{u v:FaV}(h:chn f g u v):g={f with picks:=g.picks,options:=g.options}:=by
 obtain⟨key,stamp,canc,day,kind,inst,other,cur,target,q,amount,fee,⟨pn,pd⟩,⟨rn,rd⟩,⟨sn,sd⟩,picks,options,choice⟩:=f
 obtain⟨key',stamp',canc',day',kind',inst',other',cur',target',q',amount',fee',⟨pn',pd'⟩,⟨rn',rd'⟩,⟨sn',sd'⟩,picks',options',choice'⟩:=g
 unfold chn at h;simp only at h
 obtain⟨rfl,rfl,rfl,rfl,rfl,rfl,rfl,rfl,rfl,rfl,rfl,rfl,rfl,rfl,rfl,rfl,rfl,rfl,rfl,_,_⟩:=h
 rfl
theorem Zb6(f g:Fct)(u v:FaV)(w:World)(hp:Env w)(hf:FxM w w.1.size (f,u))(hg:FxM w w.1.size (g,v)):
 Calls Tryz.prog 33 #[.agg (Qb f u),.agg (Qb g v)] w fun e w'=>e=.returned (.bool (decide (f=g)))/\Below w.1.size w w':=by
 by_cases hc:chn f g u v
 ·have h1:=hf.m.pk.1;have h2:=hf.m.op.1;have hv:v.pn=u.pn/\v.on=u.on:=⟨hc.2.2.2.2.2.2.2.2.2.2.2.2.2.2.2.2.2.2.2.1.symm,hc.2.2.2.2.2.2.2.2.2.2.2.2.2.2.2.2.2.2.2.2.symm⟩;have he:=Zm3 hc;have hm:=And.intro hg.m.pk hg.m.op
  dsimp only at hm
  generalize g.picks=mp at*;generalize g.options=mo at*;subst he
  by_cases hq:f.picks=mp
  ·refine(ZhS f mp mo u v w hp hf hv hm hq).mono fun e w' h=>⟨h.1.trans (Qd ?_),h.2⟩
   subst hq;rw[decide_eq_decide]
   constructor
   ·intro h;rw[<-h]
   ·intro h;exact congrArg Fct.options h
  ·refine(ZhR f mp mo u v w hp hf hv hm hq).mono fun e w' h=>⟨h.1.trans (Qd (decide_eq_false fun h=>hq (congrArg Fct.picks h)).symm),h.2⟩
 ·refine(ZhQ f g u v w hp hc).mono fun e w' h=>⟨h.1.trans (Qd (decide_eq_false fun h=>hc ?_).symm),h.2⟩
  subst h;have h1:=hf.m.pk.1;have h2:=hg.m.pk.1;have h3:=hf.m.op.1;have h4:=hg.m.op.1;exact⟨rfl,rfl,rfl,rfl,rfl,rfl,rfl,rfl,rfl,rfl,rfl,rfl,rfl,rfl,rfl,rfl,rfl,rfl,rfl,h1.trans h2.symm,h3.trans h4.symm⟩
end
section
attribute [local go_sem] Oper.semAt_some
attribute [local go_sem ↓] Ql Qz
theorem Zg5{xs ys:List Fx}{k:Nat}{f:Fct}{u v:FaV}(h:(xs.map (·.1)).take k=(ys.map (·.1)).take k)(hx:xs[k]?=some (f,u))(hy:ys[k]?=some (f,v)):(xs.map (·.1)).take (k+1)=(ys.map (·.1)).take (k+1):=
 Zaw h (x:=f) (by rw[List.getElem?_map,hx];rfl) (by rw[List.getElem?_map,hy];rfl)
theorem Zju(A A':Option Addr)(n n' c c':Nat)(xs ys:List Fx)(w:World)(hp:Env w)(h1:Fxs w w.1.size A n xs)(h2:Fxs w w.1.size A' n' ys)(hn:n<=1000000000)(hn':n'<=1000000000):
 Calls Tryz.prog 34 #[.slice A n c,.slice A' n' c',.func (.func 35) #[] #[]] w fun e w'=>e=.returned (.bool (decide (xs.map (·.1)=ys.map (·.1))))/\Below w.1.size w w':=by
 have H1:=jq h1;have H2:=jq h2;have H:=jq (Kp.start hp)
 by_cases hnn:n=n'
 case neg=>
  have HR:=jq (show decide (xs.map (·.1)=ys.map (·.1))=false from decide_eq_false fun e=>hnn (by have h:=congrArg List.length e;rw[List.length_map,List.length_map] at h;rw[h1.len,h2.len,h]));generalize decide (xs.map (·.1)=ys.map (·.1))=res at*;have hne:((n:Int) !=(n':Int))=true:=by simp;omega
  clear h1 h2 hnn;go_enter Tryz.func34,Tryz.ntmps34
  go_wp2_with fail
  first|go_ret|skip
  rw[HR.out];exact⟨rfl,H.out.bl⟩
 subst hnn;have HT:=jq (fun h=>decide_eq_true (p:=xs.map (·.1)=ys.map (·.1)) h);have HF:=jq (fun h=>decide_eq_false (p:=xs.map (·.1)=ys.map (·.1)) h);generalize decide (xs.map (·.1)=ys.map (·.1))=res at*;clear h1 h2 hp;have hne:((n:Int) !=(n:Int))=false:=by simp
 have eg:∀args w,(callFunc 35 args).run Tryz.prog w=.ok (.enter 35 args) w:=enters_of Tryz.func35 (by kernel_rfl) rfl;go_enter Tryz.func34,Tryz.ntmps34
 go_wp2_with fail
 go_loopw [6,7,8,9,17] (fun r _ _ _ j wr=>∃k:Nat,k<=n/\r=.bool false/\j=.int .i64 k/\Hid (Kp w [] wr)/\Hid ((xs.map (·.1)).take k=(ys.map (·.1)).take k)) (fun _ _ _ _ j _=>n-(intOf j).toNat)
 case atStart=>exact⟨0,Nat.zero_le _,rfl,rfl,H,rfl⟩
 case round=>
  clear H;obtain⟨k,hk,rfl,rfl,H,HE⟩:=hrel
  by_cases hlt:k<n
  ·obtain⟨b,off,f,u,rfl,hb,hx,hm,hr⟩:=(H1.out.below H.out.bl).at_ hlt
   obtain⟨b2,off2,g,v,rfl,hb2,hy,hm2,hr2⟩:=(H2.out.below H.out.bl).at_ hlt
   have hld:=Qi hr;have hst:=fun cs (hc:cs.size=21)=>QB wr f u (cs:=cs) hc
   have hB1:=(Below.refl wr.1.size wr).alloc (Nat.le_refl _) (.cells (Qb f u) 43);have hld2:=Qi (Qu hr2 (hB1.mono H.out.bl.size) hb2);have hst2:=fun cs (hc:cs.size=21)=>QB (wr.alloc (.cells (Qb f u) 43)) g v (cs:=cs) hc
   simp only[World.size_alloc] at hst2;have HK1:=jq ((H.out.new wr.1.size rfl (Qb f u) 43).new (wr.1.size+1) (by simp) (Qb g v) 43);have HM:=jq ((hm.more H.out.bl.size).here (hB1.alloc (by simp) (.cells (Qb g v) 43)));have HM2:=jq ((hm2.more H.out.bl.size).here (hB1.alloc (by simp) (.cells (Qb g v) 43)));have HX:=jq hx;have HY:=jq hy;clear hx hy hr hr2 hb hb2 hm hm2 hB1;go_upto_region 7 with (fail)
   generalize (wr.alloc (.cells (Qb f u) 43)).alloc (.cells (Qb g v) 43)=W1 at*;generalize hp1:wr.1.size+1=p1 at*;generalize hp0:wr.1.size=p0 at*;clear hld hst hld2 hst2 hp1 hp0;have hl1:=Qj (HK1.out.at_ 1 rfl) (Qg f u);have hl2:=Qj (HK1.out.at_ 0 rfl) (Qg g v);have HC:=jq (Zdg f g u v W1 HK1.out.pw HM.out HM2.out)
   by_cases hfg:f=g
   ·subst hfg;rw[decide_eq_true rfl] at HC;go_wp2_with (go_at_fn 35;refine HC.out.mono ?_;rintro e w3 ⟨rfl,hb3⟩)
    go_roundw
    case rel=>exact⟨k+1,by omega,rfl,by go_num,(HK1.out.here hb3).bare,Zg5 HE.out HX.out HY.out⟩
    case measure=>simp[intOf];omega
   ·have HNE:=jq (HF.out fun e=>hfg (by
     have h3:(xs.map (·.1))[k]?=some f:=by rw[List.getElem?_map,HX.out];rfl
     have h4:(ys.map (·.1))[k]?=some g:=by rw[List.getElem?_map,HY.out];rfl
     rw[e,h4] at h3;exact(Option.some.inj h3).symm))
    rw[decide_eq_false hfg] at HC;clear hfg;go_wp2_with (go_at_fn 35;refine HC.out.mono ?_;rintro e w3 ⟨rfl,hb3⟩)
    first|go_ret|skip
    rw[HNE.out];exact⟨rfl,(HK1.out.here hb3).bl⟩
  ·obtain rfl:k=n:=by omega
   have HR:=jq (HT.out (by have h:=HE.out;rwa [List.take_of_length_le (by rw[List.length_map,<-H1.out.len];exact Nat.le_refl _),List.take_of_length_le (by rw[List.length_map,<-H2.out.len];exact Nat.le_refl _)] at h));go_wp2_with fail
   first|go_ret|skip
   rw[HR.out];exact⟨rfl,H.out.bl⟩
theorem VG(A A':Option Addr)(n n' c c':Nat)(xs ys:List Fx)(w:World)(hp:Env w)(h1:Fxs w w.1.size A n xs)(h2:Fxs w w.1.size A' n' ys)(hn:n<=1000000000)(hn':n'<=1000000000):
 Calls Tryz.prog 11 #[.slice A n c,.slice A' n' c'] w fun e w'=>e=.returned (.bool (decide (xs.map (·.1)=ys.map (·.1))))/\Below w.1.size w w':=by
 have H:=jq (Zju A A' n n' c c' xs ys w hp h1 h2 hn hn');generalize decide (xs.map (·.1)=ys.map (·.1))=res at*;clear h1 h2 hp;go_enter Tryz.func11,Tryz.ntmps11
 go_wp2_with (go_at_call 34;refine H.out.mono ?_;rintro e w' ⟨rfl,hb'⟩)
 go_ret
 exact⟨rfl,hb'⟩
end
section
attribute [local go_sem] Oper.semAt_some
attribute [local go_sem ↓] Go.wp_at_zero Go.wp_at_succ Ql Qz
theorem Jz(A A':Option Addr)(n n' c c':Nat)(xs ys:List Fx)(w:World)(hp:Env w)(h1:Fxs w w.1.size A n xs)(h2:Fxs w w.1.size A' n' ys)(hn:n<=1000000000)(hn':n'<=1000000000):
 Calls Tryz.prog 10 #[.slice A n c,.slice A' n' c'] w fun e w'=>e=.returned (.bool (decide (xs.map (·.1)=ys.map (·.1))))/\Below w.1.size w w':=by
 have H1:=jq h1;have H2:=jq h2;have H:=jq (Kp.start hp)
 by_cases hnn:n=n'
 case neg=>
  have HR:=jq (show decide (xs.map (·.1)=ys.map (·.1))=false from decide_eq_false fun e=>hnn (by have h:=congrArg List.length e;rw[List.length_map,List.length_map] at h;rw[h1.len,h2.len];exact h));generalize decide (xs.map (·.1)=ys.map (·.1))=res at*;have hne:((n:Int) !=(n':Int))=true:=by simp;omega
  clear h1 h2 hnn;go_enter Tryz.func10,Tryz.ntmps10
  go_wp2_with fail
  first|go_ret|skip
  rw[HR.out];exact⟨rfl,H.out.bl⟩
 subst hnn;have HT:=jq (fun h=>decide_eq_true (p:=xs.map (·.1)=ys.map (·.1)) h);have HF:=jq (fun h=>decide_eq_false (p:=xs.map (·.1)=ys.map (·.1)) h);generalize decide (xs.map (·.1)=ys.map (·.1))=res at*;clear h1 h2 hp;have hne:((n:Int) !=(n:Int))=false:=by simp
 go_enter Tryz.func10,Tryz.ntmps10
 go_wp2_with fail
 go_loopw [5] (fun j wr=>∃k:Nat,k<=n/\j=.int .i64 k/\Hid (Kp w [] wr)/\Hid ((xs.map (·.1)).take k=(ys.map (·.1)).take k)) (fun j _=>n-(intOf j).toNat)
 case atStart=>exact⟨0,Nat.zero_le _,rfl,H,rfl⟩
 case round=>
  clear H;obtain⟨k,hk,rfl,H,HE⟩:=hrel
  by_cases hlt:k<n
  ·obtain⟨b,off,f,u,rfl,hb,hx,hm,hr⟩:=(H1.out.below H.out.bl).at_ hlt
   obtain⟨b2,off2,g,v,rfl,hb2,hy,hm2,hr2⟩:=(H2.out.below H.out.bl).at_ hlt
   have HM:=jq (hm.more H.out.bl.size);have HM2:=jq (hm2.more H.out.bl.size);have HX:=jq hx;have HY:=jq hy
   have HZ:=jq (show ∀X,Below wr.1.size wr X->(Vj (.pointer (some ⟨b,off+k*21,none⟩))).run Tryz.prog X=.ok (.agg (Qb f u)) X/\(Vj (.pointer (some ⟨b2,off2+k*21,none⟩))).run Tryz.prog X=.ok (.agg (Qb g v)) X from
    fun X hX=>⟨Qi (Qu hr hX (Nat.lt_of_lt_of_le hb H.out.bl.size)),Qi (Qu hr2 hX (Nat.lt_of_lt_of_le hb2 H.out.bl.size))⟩)
   have HC:=jq (fun W (hW:Below wr.1.size wr W)=>Zb6 f g u v W (H.out.here hW).pw (HM.out.here hW) (HM2.out.here hW));have HBL:=jq (Below.refl wr.1.size wr);have i1:(0:Int)<=(k:Int):=by omega
   have i2:(k:Int)<(n:Int):=by omega
   clear hx hy hr hr2 hb hb2 hm hm2
   by_cases hfg:f=g
   ·subst hfg;rw[decide_eq_true rfl] at HC;go_upto_region 6 with (fail)
    go_region_held3 (fun X=>(Vj (.pointer (some ⟨b,off+k*21,none⟩))).run Tryz.prog X=.ok (.agg (Qb f u)) X/\(Vj (.pointer (some ⟨b2,off2+k*21,none⟩))).run Tryz.prog X=.ok (.agg (Qb f v)) X)
     (first|exact HZ.out _ hz3|exact HZ.out _ HBL.out.drew|exact HZ.out _ HBL.out|go_keep)
     (first|(go_at_call 33;refine(HC.out _ HBL.out.drew).mono ?_;rintro e w3 ⟨rfl,hb3⟩;have hz3:Below wr.1.size wr w3:=HBL.out.drew.trans hb3))
    all_goals
     go_wp2_with fail
     go_roundw
     case rel=>exact⟨k+1,by omega,by go_num,(H.out.here hz3).bare,Zg5 HE.out HX.out HY.out⟩
     case measure=>simp[intOf];omega
   ·have HNE:=jq (HF.out fun e=>hfg (by
     have h3:(xs.map (·.1))[k]?=some f:=by rw[List.getElem?_map,HX.out];rfl
     have h4:(ys.map (·.1))[k]?=some g:=by rw[List.getElem?_map,HY.out];rfl
     rw[e,h4] at h3;exact(Option.some.inj h3).symm))
    rw[decide_eq_false hfg] at HC;clear hfg;go_upto_region 6 with (fail)
    go_region_held3 (fun X=>(Vj (.pointer (some ⟨b,off+k*21,none⟩))).run Tryz.prog X=.ok (.agg (Qb f u)) X/\(Vj (.pointer (some ⟨b2,off2+k*21,none⟩))).run Tryz.prog X=.ok (.agg (Qb g v)) X)
     (first|exact HZ.out _ hz3|exact HZ.out _ HBL.out.drew|exact HZ.out _ HBL.out|go_keep)
     (first|(go_at_call 33;refine(HC.out _ HBL.out.drew).mono ?_;rintro e w3 ⟨rfl,hb3⟩;have hz3:Below wr.1.size wr w3:=HBL.out.drew.trans hb3))
    all_goals
     go_wp2_with fail
     first|go_ret|skip
     rw[HNE.out];exact⟨rfl,(H.out.here hz3).bl⟩
  ·obtain rfl:k=n:=by omega
   have HR:=jq (HT.out (by have h:=HE.out;rwa [List.take_of_length_le (by rw[List.length_map,<-H1.out.len];exact Nat.le_refl _),List.take_of_length_le (by rw[List.length_map,<-H2.out.len];exact Nat.le_refl _)] at h));go_wp2_with fail
   first|go_ret|skip
   rw[HR.out];exact⟨rfl,H.out.bl⟩
end
end Go.Proofs.YtmfjmngebldanaaGreatDoor
