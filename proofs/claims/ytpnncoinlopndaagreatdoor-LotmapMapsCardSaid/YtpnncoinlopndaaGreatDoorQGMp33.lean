/- . -/
import Derived.Test.YtpnncoinlopndaaGreatDoorQGMp39
import Derived.Test.YtpnncoinlopndaaGreatDoorQGMp36
import Derived.Test.YtpnncoinlopndaaGreatDoorQGMp24
import Derived.Test.YtpnncoinlopndaaGreatDoorQGMp16
set_option maxRecDepth 100000
set_option maxHeartbeats 4000000
namespace Go.Proofs.YtpnncoinlopndaaGreatDoor
open Go.Lib renaming hid→jq
open Go.RowKit Go.Shelf
section
theorem ZaO(f:Fr):(decide f.ok=true/\Vf f=0)\/(decide f.ok=false/\Vf f=1):=by
 unfold Vf
 by_cases h:f.ok
 ·exact .inl ⟨decide_eq_true h,if_pos h⟩
 ·exact .inr ⟨decide_eq_false h,if_neg h⟩
theorem ZcH(m:Mp)(hm:m.Max)(hr:m.ratio.Sz 15000)(hs:m.share.Sz 15000)(hz:m.price.Sz 15000):Xb 11 #[MpV m] (.int .i64 (JE m)):=by
 intro w hp;have HPO:=jq (Zgg m);have HDB:=jq (show XP m.day=(decide (-25567<=m.day)&&decide (m.day<=84005)) from rfl);generalize JE m=res at*;have H:=jq ((Kp.start hp).new w.1.size rfl #[.string ⟨m.cause.toArray⟩,.int .i64 m.day,.string ⟨m.inst.toArray⟩,.string ⟨m.other.toArray⟩,.string ⟨m.ratio.n.toArray⟩,.string ⟨m.ratio.d.toArray⟩,.string ⟨m.share.n.toArray⟩,.string ⟨m.share.d.toArray⟩,.string ⟨m.price.n.toArray⟩,.string ⟨m.price.d.toArray⟩,.bool m.keep] 28);have HN1:=jq (fun W=>JB m.cause W hm.cause);have HN2:=jq (fun W=>JB m.inst W hm.inst);have HN3:=jq (fun W=>JB m.other W hm.other);have HC1:=jq (fun W=>JW m.ratio W (hr.more (by omega)));have HC2:=jq (fun W=>JW m.share W (hs.more (by omega)));have HC3:=jq (fun W=>JW m.price W (hz.more (by omega)));have K1:=jq (ZaO m.ratio);have K2:=jq (ZaO m.share);have K3:=jq (ZaO m.price);have HO1:=jq (fun W=>YT [49] W (by simp));rw[show((val [49]:Int):Rat)=1 by rw[show val [49]=1 from by decide];rfl] at HO1;have hosz:(Qf 1).Sz 20000:=by rw[show(1:Rat)=((1:Int):Rat) from rfl,Jv];exact⟨by decide+kernel,by simp⟩
 have hzz:(⟨[],[]⟩:Fr).Sz 20000:=⟨by simp,by simp⟩;have HS1:=jq (fun W=>Xd m.ratio ⟨[],[]⟩ W (hr.more (by omega)) hzz);have HS2:=jq (fun W=>Xd m.share ⟨[],[]⟩ W (hs.more (by omega)) hzz);have HS4:=jq (fun W=>Xd m.price ⟨[],[]⟩ W (hz.more (by omega)) hzz);have HS3:=jq (fun W=>Xd m.share (Qf 1) W (hs.more (by omega)) hosz);rw[show(⟨[],[]⟩:Fr).rat=0 from Zbk] at HS1 HS2 HS4;rw[Qj] at HS3;have E1:=jq (Ze8 m.ratio.rat 0);have E2:=jq (ZbG m.share.rat 0);have E3:=jq (Ze9 m.share.rat 1);have E4:=jq (ZbG m.price.rat 0);clear hosz hzz hm hp hr hs hz;generalize Xe m.ratio.rat 0=z1 at *; generalize Xe m.share.rat 0=z2 at *; generalize Xe m.share.rat 1=z3 at *; generalize Xe m.price.rat 0=z4 at*;generalize decide (m.ratio.rat<=0)=r1 at *; generalize decide (m.share.rat<0)=r2 at *; generalize decide (1<m.share.rat)=r3 at *; generalize decide (m.price.rat<0)=r4 at*;generalize decide m.ratio.ok=o1 at *; generalize decide m.share.ok=o2 at *; generalize decide m.price.ok=o3 at*;generalize Vf m.ratio=c1 at *; generalize Vf m.share=c2 at *; generalize Vf m.price=c3 at*;generalize Qf 1=one at*;generalize QG m.cause=n1 at *; generalize QG m.inst=n2 at *; generalize QG m.other=n3 at*;unfold Qq Qg QC at*
 unfold MpV S at*
 rw[Vh];go_enter Tryz.func11,Tryz.ntmps11
 go_wp2_with fail
 generalize w.alloc _=W0 at*;obtain⟨x0,x1,x2,x3,x4,x5,x6,x7,x8,x9,x10⟩:=z11 H.out (i:=0) rfl
 go_wp2_with fail
 refine(HN1.out _).mono ?_;rintro e w1 ⟨rfl,rfl⟩
 cases n1 with
 |false=>
  go_wp2_with fail
  first|go_ret|skip
  exact⟨Qp (HPO.out.trans (by simp)).symm,H.out.bl⟩
 |true=>
 go_wp2_with fail
 refine(HN2.out _).mono ?_;rintro e w1 ⟨rfl,rfl⟩
 cases n2 with
 |false=>
  go_wp2_with fail
  first|go_ret|skip
  exact⟨Qp (HPO.out.trans (by simp)).symm,H.out.bl⟩
 |true=>
 go_wp2_with fail
 refine(HN3.out _).mono ?_;rintro e w1 ⟨rfl,rfl⟩
 cases n3 with
 |false=>
  go_wp2_with fail
  first|go_ret|skip
  exact⟨Qp (HPO.out.trans (by simp)).symm,H.out.bl⟩
 |true=>
 by_cases hd1:m.day< -25567
 ·rw[decide_eq_false (show ¬ -25567<=m.day by omega)] at HDB;rw[HDB.out] at HPO;go_wp2_with fail
  first|go_ret|skip
  exact⟨Qp (HPO.out.trans (by simp)).symm,H.out.bl⟩
 by_cases hd2:84005<m.day
 ·rw[decide_eq_false (show ¬m.day<=84005 by omega)] at HDB;rw[HDB.out] at HPO;go_wp2_with fail
  first|go_ret|skip
  exact⟨Qp (HPO.out.trans (by simp)).symm,H.out.bl⟩
 rw[decide_eq_true (show-25567<=m.day by omega),decide_eq_true (show m.day<=84005 by omega)] at HDB;rw[HDB.out] at HPO;go_wp2_with fail
 refine(HC1.out _).mono ?_;rintro e w1 ⟨rfl,hb⟩;replace H:=jq (H.out.here hb);clear x0 x1 x2 x3 x4 x5 x6 x7 x8 x9 x10 hb;obtain⟨x0,x1,x2,x3,x4,x5,x6,x7,x8,x9,x10⟩:=z11 H.out (i:=0) rfl
 rcases K1.out with ⟨rfl,rfl⟩|⟨rfl,rfl⟩
 rotate_left
 ·go_wp2_with fail
  first|go_ret|skip
  exact⟨Qp (HPO.out.trans (by simp)).symm,H.out.bl⟩
 go_wp2_with fail
 refine(HC2.out _).mono ?_;rintro e w1 ⟨rfl,hb⟩;replace H:=jq (H.out.here hb);clear x0 x1 x2 x3 x4 x5 x6 x7 x8 x9 x10 hb;obtain⟨x0,x1,x2,x3,x4,x5,x6,x7,x8,x9,x10⟩:=z11 H.out (i:=0) rfl
 rcases K2.out with ⟨rfl,rfl⟩|⟨rfl,rfl⟩
 rotate_left
 ·go_wp2_with fail
  first|go_ret|skip
  exact⟨Qp (HPO.out.trans (by simp)).symm,H.out.bl⟩
 go_wp2_with fail
 refine(HC3.out _).mono ?_;rintro e w1 ⟨rfl,hb⟩;replace H:=jq (H.out.here hb);clear x0 x1 x2 x3 x4 x5 x6 x7 x8 x9 x10 hb;obtain⟨x0,x1,x2,x3,x4,x5,x6,x7,x8,x9,x10⟩:=z11 H.out (i:=0) rfl
 rcases K3.out with ⟨rfl,rfl⟩|⟨rfl,rfl⟩
 rotate_left
 ·go_wp2_with fail
  first|go_ret|skip
  exact⟨Qp (HPO.out.trans (by simp)).symm,H.out.bl⟩
 go_wp2_with fail
 refine(HO1.out _).mono ?_;rintro e w1 ⟨rfl,hb⟩;replace H:=jq ((H.out.here hb).new w1.1.size rfl #[.string ⟨one.n.toArray⟩,.string ⟨one.d.toArray⟩] 26);clear x0 x1 x2 x3 x4 x5 x6 x7 x8 x9 x10 hb;go_upto_region 8 with (fail)
 generalize w1.alloc _=W1 at*;obtain⟨x0,x1,x2,x3,x4,x5,x6,x7,x8,x9,x10⟩:=z11 H.out (i:=1) rfl
 have q0:=H.out.c 0 0 rfl rfl;have q1:=H.out.c 0 1 rfl rfl;go_wp2_with fail
 refine(HS1.out _).mono ?_;rintro e w2 ⟨rfl,hb⟩;replace H:=jq (H.out.here hb);clear x0 x1 x2 x3 x4 x5 x6 x7 x8 x9 x10 hb q0 q1;obtain⟨x0,x1,x2,x3,x4,x5,x6,x7,x8,x9,x10⟩:=z11 H.out (i:=1) rfl
 have q0:=H.out.c 0 0 rfl rfl;have q1:=H.out.c 0 1 rfl rfl
 by_cases hz1:z1<=0
 ·rw[decide_eq_true hz1] at E1;rw[<-E1.out] at HPO;go_wp2_with fail
  first|go_ret|skip
  exact⟨Qp (HPO.out.trans (by simp)).symm,H.out.bl⟩
 rw[decide_eq_false hz1] at E1;rw[<-E1.out] at HPO;go_wp2_with fail
 refine(HS2.out _).mono ?_;rintro e w2 ⟨rfl,hb⟩;replace H:=jq (H.out.here hb);clear x0 x1 x2 x3 x4 x5 x6 x7 x8 x9 x10 hb q0 q1;obtain⟨x0,x1,x2,x3,x4,x5,x6,x7,x8,x9,x10⟩:=z11 H.out (i:=1) rfl
 have q0:=H.out.c 0 0 rfl rfl;have q1:=H.out.c 0 1 rfl rfl
 by_cases hz2:z2<0
 ·rw[decide_eq_true hz2] at E2;rw[<-E2.out] at HPO;go_wp2_with fail
  first|go_ret|skip
  exact⟨Qp (HPO.out.trans (by simp)).symm,H.out.bl⟩
 rw[decide_eq_false hz2] at E2;rw[<-E2.out] at HPO;go_wp2_with fail
 refine(HS3.out _).mono ?_;rintro e w2 ⟨rfl,hb⟩;replace H:=jq (H.out.here hb);clear x0 x1 x2 x3 x4 x5 x6 x7 x8 x9 x10 hb q0 q1;obtain⟨x0,x1,x2,x3,x4,x5,x6,x7,x8,x9,x10⟩:=z11 H.out (i:=1) rfl
 have q0:=H.out.c 0 0 rfl rfl;have q1:=H.out.c 0 1 rfl rfl
 by_cases hz3:0<z3
 ·rw[decide_eq_true hz3] at E3;rw[<-E3.out] at HPO;go_wp2_with fail
  first|go_ret|skip
  exact⟨Qp (HPO.out.trans (by simp)).symm,H.out.bl⟩
 rw[decide_eq_false hz3] at E3;rw[<-E3.out] at HPO;go_wp2_with fail
 refine(HS4.out _).mono ?_;rintro e w2 ⟨rfl,hb⟩;replace H:=jq (H.out.here hb);clear x0 x1 x2 x3 x4 x5 x6 x7 x8 x9 x10 hb q0 q1;obtain⟨x0,x1,x2,x3,x4,x5,x6,x7,x8,x9,x10⟩:=z11 H.out (i:=1) rfl
 have q0:=H.out.c 0 0 rfl rfl;have q1:=H.out.c 0 1 rfl rfl
 by_cases hz4:z4<0
 ·rw[decide_eq_true hz4] at E4;rw[<-E4.out] at HPO;go_wp2_with fail
  first|go_ret|skip
  exact⟨Qp (HPO.out.trans (by simp)).symm,H.out.bl⟩
 rw[decide_eq_false hz4] at E4;rw[<-E4.out] at HPO;generalize m.keep=kp at*
 cases kp with
 |true=>
  cases ho:(m.other==m.inst) with
  |true=>
   rw[ho] at HPO;go_wp2_with fail
   first|go_ret|skip
   exact⟨Qp (HPO.out.trans (by simp)).symm,H.out.bl⟩
  |false=>
   rw[ho] at HPO;go_wp2_with fail
   first|go_ret|skip
   exact⟨Qp (HPO.out.trans (by simp)).symm,H.out.bl⟩
 |false=>
  cases hn:(m.share.n==one.n)<;>cases hd:(m.share.d==one.d)
  all_goals
   rw[hn,hd] at HPO;go_wp2_with fail
   first|go_ret|skip
   exact⟨Qp (HPO.out.trans (by simp)).symm,H.out.bl⟩
end
section
attribute [local go_sem ↓] Go.wp_at_zero Go.wp_at_succ
def Zed(q:List UInt8)(f:Fr):List UInt8×Fr×Int:=
 if QJ q=false\/¬f.ok then([],Fr.zero,1) else if val q<0\/f.rat<=0 then([],Fr.zero,2)
 else(Qa (QK (((val q:Int):Rat)*f.rat)),Qf (((val q:Int):Rat)*f.rat-((QK (((val q:Int):Rat)*f.rat):Int):Rat)),0)
def Zfs(r:List UInt8×Fr×Int)(w:World)(e:Ending)(w':World):Prop:=e=.returned (.tuple #[S r.1,QC r.2.1,.int .i64 r.2.2])/\Below w.1.size w w'
theorem ZgT(q:List UInt8)(f:Fr)(w:World)(hp:Env w)(hq:q.length<=2000)(hf:f.Sz 2000):
 Calls Tryz.prog 17 #[S q,QC f] w (Zfs (Zed q f) w):=by
 have HPO:=jq (show Zfs (Zed q f) w=fun e w'=>e=.returned (.tuple #[S (Zed q f).1,QC (Zed q f).2.1,.int .i64 (Zed q f).2.2])/\Below w.1.size w w' from rfl);have HSC:=jq (show Zed q f=if QJ q=false\/¬f.ok then([],Fr.zero,1) else if val q<0\/f.rat<=0 then([],Fr.zero,2) else(Qa (QK (((val q:Int):Rat)*f.rat)),Qf (((val q:Int):Rat)*f.rat-((QK (((val q:Int):Rat)*f.rat):Int):Rat)),0) from rfl);generalize Zfs (Zed q f) w=post at*;generalize Zed q f=res at*;have H:=jq (show Kp w [(w.1.size+1,#[.string ⟨#[]⟩,.string ⟨#[]⟩],26),(w.1.size,#[.string ⟨f.n.toArray⟩,.string ⟨f.d.toArray⟩],26)] ((w.alloc (.cells #[.string ⟨f.n.toArray⟩,.string ⟨f.d.toArray⟩] 26)).alloc (.cells #[.string ⟨#[]⟩,.string ⟨#[]⟩] 26)) from((Kp.start hp).new w.1.size rfl _ _).new (w.1.size+1) (by simp) _ _);have HCQ:=jq (fun W=>XM q W (by omega));have HCF:=jq (fun W=>JW f W (hf.more (by omega)));have HK:=jq (ZaO f);have HSG:=jq (fun W=>Xi q [] W (by omega) (by simp));rw[XK,Int.sub_zero] at HSG;have HCM:=jq (fun W=>Xd f ⟨[],[]⟩ W (hf.more (by omega)) ⟨by simp,by simp⟩);rw[show(⟨[],[]⟩:Fr).rat=0 from Zbk] at HCM;have E1:=jq (Ze7 (val q));have E2:=jq (Ze8 f.rat 0);obtain⟨K,hK⟩:∃K:Nat,K=2000:=⟨_,rfl⟩
 rw[<-hK] at hq hf;have hiq:=JP (Qz hq) (show 1<=K by omega);have hex:=JO hiq (Zae hf (by omega));have z1:=QF hiq;have z2:=QF hex;have hlo:=Ze5 hex (by omega);have l1:=Qd hlo;have z3:=QF (JP hlo (by omega));have HO1:=jq (fun W=>YT q W (by omega));have HMU:=jq (fun W=>ZbS (Qf ((val q:Int):Rat)) f W (z1.more (by omega)) (hf.more (by omega)));rw[Qj] at HMU;have HFL:=jq (fun W=>JX (Qf (((val q:Int):Rat)*f.rat)) W (z2.more (by omega)));rw[Qj] at HFL;have HO2:=jq (fun W=>YT (Qa (QK (((val q:Int):Rat)*f.rat))) W (by omega));rw[Qc] at HO2;have HSB:=jq (fun W=>ZbT (Qf (((val q:Int):Rat)*f.rat)) (Qf ((QK (((val q:Int):Rat)*f.rat):Int):Rat)) W (z2.more (by omega)) (z3.more (by omega)));rw[Qj,Qj] at HSB;clear hp hq hf hK hiq hex z1 z2 hlo l1 z3;generalize Qf (((val q:Int):Rat)*f.rat-((QK (((val q:Int):Rat)*f.rat):Int):Rat))=fd at*;generalize Qf ((QK (((val q:Int):Rat)*f.rat):Int):Rat)=ff at*;generalize Qa (QK (((val q:Int):Rat)*f.rat))=tn at*;generalize Qf (((val q:Int):Rat)*f.rat)=fa at*;generalize Qf ((val q:Int):Rat)=fo at*;generalize Xe f.rat 0=z at*;generalize Qy (val q)=sg at*
 have HSC2:=jq (show res=if QJ q=false\/decide f.ok=false then([],Fr.zero,1) else if decide (val q<0)=true\/decide (f.rat<=0)=true then([],Fr.zero,2) else(tn,fd,0) by
  rw[HSC.out];simp only[decide_eq_true_eq,decide_eq_false_iff_not])
 clear HSC;generalize decide (val q<0)=b1 at*;generalize decide (f.rat<=0)=b2 at*;generalize decide f.ok=o1 at*;generalize Vf f=cf at*;generalize QJ q=cq at*;have x0:=H.out.c 1 0 rfl rfl;have x1:=H.out.c 1 1 rfl rfl;have y0:=H.out.c 0 0 rfl rfl;have y1:=H.out.c 0 1 rfl rfl;have f0:=H.out.f 0 0 rfl;have f1:=H.out.f 0 1 rfl;unfold Qq Qg Qh QC at*
 unfold S at*
 go_enter Tryz.func17,Tryz.ntmps17
 go_wp2_with fail
 generalize ((w.alloc (.cells #[.string ⟨f.n.toArray⟩,.string ⟨f.d.toArray⟩] 26)).alloc (.cells #[.string ⟨#[]⟩,.string ⟨#[]⟩] 26))=W at*;refine(HCQ.out _).mono ?_;rintro e w1 ⟨rfl,rfl⟩
 cases cq with
 |false=>
  rw[if_pos (.inl rfl)] at HSC2;go_wp2_with fail
  refine bodyPost_ret (v:=.tuple #[.string ⟨#[]⟩,.agg #[.string ⟨#[]⟩,.string ⟨#[]⟩],.int .i64 1]) (by simp[results,Tryz.results17,go_sem,y0,y1]) rfl ?_;rw[HPO.out,HSC2.out];exact⟨rfl,(H.out.set2 _ _).bl⟩
 |true=>
 go_wp2_with fail
 refine(HCF.out _).mono ?_;rintro e w1 ⟨rfl,hb⟩;replace H:=jq (H.out.here hb);clear hb x0 x1 y0 y1 f0 f1;have x0:=H.out.c 1 0 rfl rfl;have x1:=H.out.c 1 1 rfl rfl;have y0:=H.out.c 0 0 rfl rfl;have y1:=H.out.c 0 1 rfl rfl;have f0:=H.out.f 0 0 rfl;have f1:=H.out.f 0 1 rfl
 rcases HK.out with ⟨rfl,rfl⟩|⟨rfl,rfl⟩
 rotate_left
 ·rw[if_pos (.inr rfl)] at HSC2;go_wp2_with fail
  refine bodyPost_ret (v:=.tuple #[.string ⟨#[]⟩,.agg #[.string ⟨#[]⟩,.string ⟨#[]⟩],.int .i64 1]) (by simp[results,Tryz.results17,go_sem,y0,y1]) rfl ?_;rw[HPO.out,HSC2.out];exact⟨rfl,(H.out.set2 _ _).bl⟩
 rw[if_neg (by simp)] at HSC2;go_wp2_with fail
 refine(HSG.out _).mono ?_;rintro e w2 ⟨rfl,rfl⟩
 by_cases hs:sg<0
 ·rw[decide_eq_true hs] at E1;rw[if_pos (.inl E1.out.symm)] at HSC2;go_wp2_with fail
  refine bodyPost_ret (v:=.tuple #[.string ⟨#[]⟩,.agg #[.string ⟨#[]⟩,.string ⟨#[]⟩],.int .i64 2]) (by simp[results,Tryz.results17,go_sem,y0,y1]) rfl ?_;rw[HPO.out,HSC2.out];exact⟨rfl,(H.out.set2 _ _).bl⟩
 rw[decide_eq_false hs] at E1;go_wp2_with fail
 refine(HCM.out _).mono ?_;rintro e w2 ⟨rfl,hb⟩;replace H:=jq (H.out.here hb);clear hb x0 x1 y0 y1 f0 f1;have x0:=H.out.c 1 0 rfl rfl;have x1:=H.out.c 1 1 rfl rfl;have y0:=H.out.c 0 0 rfl rfl;have y1:=H.out.c 0 1 rfl rfl;have f0:=H.out.f 0 0 rfl;have f1:=H.out.f 0 1 rfl
 by_cases hz:z<=0
 ·rw[decide_eq_true hz] at E2;rw[if_pos (.inr E2.out.symm)] at HSC2;go_wp2_with fail
  refine bodyPost_ret (v:=.tuple #[.string ⟨#[]⟩,.agg #[.string ⟨#[]⟩,.string ⟨#[]⟩],.int .i64 2]) (by simp[results,Tryz.results17,go_sem,y0,y1]) rfl ?_;rw[HPO.out,HSC2.out];exact⟨rfl,(H.out.set2 _ _).bl⟩
 rw[decide_eq_false hz] at E2;rw[if_neg (by rw[<-E1.out,<-E2.out];simp)] at HSC2;clear x0 x1 y0 y1 f0 f1 HCQ HCF HSG HCM HK E1 E2;go_upto_region 5 with (fail)
 go_cut [7] (fun u wc=>∃p:Nat,u=.pointer (some ⟨p,0,none⟩)/\Hid (Kp w [(p,#[.string ⟨fa.n.toArray⟩,.string ⟨fa.d.toArray⟩],26),(w.1.size+1,#[.string ⟨#[]⟩,.string ⟨#[]⟩],26),(w.1.size,#[.string ⟨f.n.toArray⟩,.string ⟨f.d.toArray⟩],26)] wc))
 case first=>
  have hS:=jq (fun X (h:Bz w2 X)=>(show X.cell? ⟨w.1.size,0,none⟩=some (.string ⟨f.n.toArray⟩)/\X.cell? ⟨w.1.size,1,none⟩=some (.string ⟨f.d.toArray⟩) from⟨(H.out.here h).c 1 0 rfl rfl,(H.out.here h).c 1 1 rfl rfl⟩))
  go_region_held3 (fun w'=>w'.cell? ⟨w.1.size,0,none⟩=some (.string ⟨f.n.toArray⟩)/\w'.cell? ⟨w.1.size,1,none⟩=some (.string ⟨f.d.toArray⟩))
   (first|(exact hS.out _ (by repeat' (first|assumption|exact Bz.refl _|refine Bz.drew ?_|refine Bz.alloc ?_ _|refine Bz.set ?_ (by first|assumption|exact Nat.le_refl _|exact Bz.size (by assumption)) _ _)))|go_keep)
   (first
     |(go_at_call 49;refine(HO1.out _).mono ?_;rintro e v1 ⟨rfl,hb1⟩;have hz1:Bz w2 v1:=Bz.call (by repeat' (first|assumption|exact Bz.refl _|refine Bz.drew ?_|refine Bz.alloc ?_ _|refine Bz.set ?_ (by first|assumption|exact Nat.le_refl _|exact Bz.size (by assumption)) _ _)) hb1
       first|(have q1:BlkB v1 w2.1.size #[.string ⟨#[]⟩,.string ⟨#[]⟩] 26:=BlkB.here (w:=(w2.alloc (.cells #[.string ⟨#[]⟩,.string ⟨#[]⟩] 26)).drew) (heap_alloc_new w2 _) hb1)|skip)
     |(go_at_call 56;refine(HMU.out _).mono ?_;rintro e v2 ⟨rfl,hb2⟩;have hz2:Bz w2 v2:=Bz.call (by repeat' (first|assumption|exact Bz.refl _|refine Bz.drew ?_|refine Bz.alloc ?_ _|refine Bz.set ?_ (by first|assumption|exact Nat.le_refl _|exact Bz.size (by assumption)) _ _)) hb2
       first
        |(have q2:=q1.here hb2;have n0:=q2.cell 0 rfl;have n1:=q2.cell 1 rfl;have g0:=q2.frozen 0;have g1:=q2.frozen 1)
        |(have q2:BlkB v2 v1.1.size #[.string ⟨#[]⟩,.string ⟨#[]⟩] 26:=BlkB.here (w:=v1.alloc (.cells #[.string ⟨#[]⟩,.string ⟨#[]⟩] 26)) (heap_alloc_new v1 _) hb2;have n0:=q2.cell 0 rfl;have n1:=q2.cell 1 rfl;have g0:=q2.frozen 0;have g1:=q2.frozen 1)
        |skip))
  all_goals
   go_wp2_with fail
   go_meet
   first
    |exact⟨_,rfl,(H.out.join hz2 q2 (by first|exact Nat.le_refl _|exact hz1.size)).set2 _ _⟩
    |exact⟨_,rfl,(H.out.here hz2).new _ rfl _ _⟩
    |exact⟨_,rfl,((H.out.here hz2).new _ rfl _ _).set2 _ _⟩
 case rest=>
 clear H HO1 HMU;obtain⟨p,rfl,H⟩:=hcut
 obtain⟨w3,rfl⟩:∃W,W=wc:=⟨_,rfl⟩
 have x0:=H.out.c 0 0 rfl rfl;have x1:=H.out.c 0 1 rfl rfl;go_wp2_with fail
 refine(HFL.out _).mono ?_;rintro e w4 ⟨rfl,hb⟩;replace H:=jq (H.out.here hb);clear hb x0 x1 HFL;go_upto_region 7 with (fail)
 have hS:=jq (fun X (h:Bz w4 X)=>(show X.cell? ⟨p,0,none⟩=some (.string ⟨fa.n.toArray⟩)/\X.cell? ⟨p,1,none⟩=some (.string ⟨fa.d.toArray⟩) from⟨(H.out.here h).c 0 0 rfl rfl,(H.out.here h).c 0 1 rfl rfl⟩));have hS2:=jq (fun X (h:Bz w4 X) u v=>(show((X.setCell ⟨w.1.size+1,0,none⟩ u).setCell ⟨w.1.size+1,1,none⟩ v).cell? ⟨p,0,none⟩=some (.string ⟨fa.n.toArray⟩)/\((X.setCell ⟨w.1.size+1,0,none⟩ u).setCell ⟨w.1.size+1,1,none⟩ v).cell? ⟨p,1,none⟩=some (.string ⟨fa.d.toArray⟩) from⟨(((H.out.here h).set 1 0 rfl u).set 1 1 rfl v).c 0 0 rfl rfl,(((H.out.here h).set 1 0 rfl u).set 1 1 rfl v).c 0 1 rfl rfl⟩))
 go_region_held3 (fun w'=>w'.cell? ⟨p,0,none⟩=some (.string ⟨fa.n.toArray⟩)/\w'.cell? ⟨p,1,none⟩=some (.string ⟨fa.d.toArray⟩))
  (first|(exact hS2.out _ (by assumption) _ _)|(exact hS.out _ (by repeat' (first|assumption|exact Bz.refl _|refine Bz.drew ?_|refine Bz.alloc ?_ _|refine Bz.set ?_ (by first|assumption|exact Nat.le_refl _|exact Bz.size (by assumption)) _ _)))|go_keep)
  (first
    |(go_at_call 49;refine(HO2.out _).mono ?_;rintro e v1 ⟨rfl,hb1⟩;have hz1:Bz w4 v1:=Bz.call (by repeat' (first|assumption|exact Bz.refl _|refine Bz.drew ?_|refine Bz.alloc ?_ _|refine Bz.set ?_ (by first|assumption|exact Nat.le_refl _|exact Bz.size (by assumption)) _ _)) hb1)
    |(go_at_call 64;refine(HSB.out _).mono ?_;rintro e v2 ⟨rfl,hb2⟩;have hz2:Bz w4 v2:=Bz.call (by repeat' (first|assumption|exact Bz.refl _|refine Bz.drew ?_|refine Bz.alloc ?_ _|refine Bz.set ?_ (by first|assumption|exact Nat.le_refl _|exact Bz.size (by assumption)) _ _)) hb2;have n0:=(H.out.here hz2).c 1 0 rfl rfl;have n1:=(H.out.here hz2).c 1 1 rfl rfl;have g0:=(H.out.here hz2).f 1 0 rfl;have g1:=(H.out.here hz2).f 1 1 rfl))
 all_goals
  go_wp2_with fail
  refine bodyPost_ret (v:=.tuple #[.string ⟨tn.toArray⟩,.agg #[.string ⟨fd.n.toArray⟩,.string ⟨fd.d.toArray⟩],.int .i64 0]) (by simp[results,Tryz.results17,go_sem,n0,n1]) rfl ?_;rw[HPO.out,HSC2.out];exact⟨rfl,(((H.out.here hz2).set 1 0 rfl _).set 1 1 rfl _).bl⟩
end
section
theorem Zfu{ls:List Lot}{k:Nat}{y:Lot}(i:List UInt8)(h:ls[k]?=some y):Qb (ls.take (k+1)) i=Qb (ls.take k) i++if(y.inst==i)=true then[y] else[]:=by
 obtain⟨hk,rfl⟩:=List.getElem?_eq_some_iff.1 h
 unfold Qb;rw[List.take_succ_eq_append_getElem hk,List.filter_append]
 congr 1
 cases h:(ls[k].inst==i)<;>simp[h]
theorem Zlp(A:Option Addr)(n c:Nat)(ls:List Lot)(i:List UInt8)(w:World)(hs:QU w w.1.size A n ls)(hn:n<=1000000):
 Calls Tryz.prog 86 #[.slice A n c,S i] w (RetOwn L7 7 54 w.1.size w (Qb ls i)):=by
 have HPO:=jq (show RetOwn L7 7 54 w.1.size w (Qb ls i)=fun e w'=>∃A c,e=.returned (.slice A (Qb ls i).length c)/\Own L7 7 54 w' w.1.size (.slice A (Qb ls i).length c) (Qb ls i)/\Below w.1.size w w' from rfl);generalize RetOwn L7 7 54 w.1.size w (Qb ls i)=post at*;have HS:=jq hs;have HNN:=jq hs.1;have H0:=jq (Own.lit (enc:=L7) (k:=7) (base:=w.1.size) w #[] 54 [] rfl Ql (Nat.le_refl _) (by simp));have HB0:=jq ((Below.refl w.1.size w).alloc (Nat.le_refl _) (.cells #[] 54));clear hs;unfold S;go_enter Tryz.func86,Tryz.ntmps86
 go_wp2_with fail
 generalize w.alloc _=W0 at*
 go_loopw [5,6] (fun s j wr=>∃(k:Nat) (A1:Option Addr) (c1:Nat),k<=n/\j=.int .i64 k/\s=.slice A1 (Qb (ls.take k) i).length c1/\Hid (Own L7 7 54 wr w.1.size (.slice A1 (Qb (ls.take k) i).length c1) (Qb (ls.take k) i))/\Hid (Below w.1.size w wr)) (fun _ j _=>n-(intOf j).toNat)
 case atStart=>exact⟨0,_,0,Nat.zero_le _,rfl,rfl,H0,HB0⟩
 case round=>
  clear H0 HB0;obtain⟨k,A1,c1,hk,rfl,rfl,HO,HB⟩:=hrel
  by_cases hlt:k<n
  ·obtain⟨b,off,y,rfl,hb,hy,d0,d1,d2,d3,d4,d5,d6⟩:=(HS.out.below HB.out).lot hlt
   have HTK:=jq (Zfu i hy);have HLL:=jq (show(Qb (ls.take k) i).length<=k from Nat.le_trans (List.length_filter_le _ _) (by rw[List.length_take];omega));generalize Qb (ls.take k) i=xs at*;clear hy
   cases hi:(y.inst==i) with
   |false=>
    rw[hi,if_neg (by decide),List.append_nil] at HTK;go_wp2_with fail
    go_roundw
    case rel=>exact⟨k+1,A1,c1,by omega,by go_num,by rw[HTK.out],(show Own _ _ _ _ _ _ _ by rw[HTK.out];exact HO.out),HB.out⟩
    case measure=>simp[intOf];omega
   |true=>
    rw[hi,if_pos rfl] at HTK;have HA2:=jq (HB.out.alloc HB.out.size (.cells (Xk y) 54));have HO5:=jq (HO.out.alloc (.cells (Xk y) 54));have HL1:=jq (Zfe (show BlkB (wr.alloc (.cells (Xk y) 54)) wr.1.size (Xk y) 54 from heap_alloc_new wr _));have e7:Xk y=#[.string ⟨y.id.toArray⟩,.string ⟨y.inst.toArray⟩,.int .i64 y.acq,.int .i64 y.opn,.string ⟨y.q.toArray⟩,.string ⟨y.c.toArray⟩,.string ⟨y.u.toArray⟩]:=rfl;rw[e7] at HA2 HO5 HL1;clear e7
    go_wp2_with (at_builtin;refine Qt _ rfl (.tmp 21) (.tmp 26) _ rfl Xg Ql Xh (base:=w.1.size) (.slice A1 _ c1) xs rfl HO5.out _ _ 1 1 [y] rfl HL1.out (by have:=HLL.out;omega) HA2.out.size ?_
                 intro A4 c4 w6 ho4 hg4 _)
    go_roundw
    case rel=>
     exact⟨k+1,A4,c4,by omega,by go_num,by rw[HTK.out,List.length_append];rfl,(show Own _ _ _ _ _ _ _ by rw[HTK.out,List.length_append];exact ho4),Qm HA2.out hg4 HA2.out.size (fun g hg=>by
      obtain⟨A',c',hv,_,_,_,h4⟩:=HO5.out.form
      exact(h4 g hg).2.1)⟩
    case measure=>simp[intOf];omega
  ·obtain rfl:k=n:=by omega
   have HE:=jq (show ls.take k=ls by rw[List.take_of_length_le (by have:=HNN.out;omega)]);rw[HE.out] at HO;rw[HE.out];go_wp2_with fail
   first|go_ret|skip
   rw[HPO.out];exact⟨A1,c1,rfl,HO.out,HB.out⟩
theorem ZgU(A:Option Addr)(n c:Nat)(ls:List Lot)(m:Mp)(w:World)(hp:Env w)(hs:QU w w.1.size A n ls)(hl:∀x∈ls,x.Sz 50000)(hn:n<=1000000000)(hcap:n<=c)(hm:m.Max)(hr:m.ratio.Sz 15000)(hsh:m.share.Sz 15000)(hz:m.price.Sz 15000):
 Calls Tryz.prog 33 #[.slice A n c,MpV m] w fun e w'=>e=.returned (.bool (decide (Xl ls=0)&&decide (JE m=0)))/\Below w.1.size w w':=by
 have HCA:=jq (fun W (hb:Below w.1.size w W)=>ZdH A n c ls W (hs.here hb) hl hn hcap);have HCM:=jq (ZcH m hm hr hsh hz);have H:=jq ((Kp.start hp).new w.1.size rfl #[.string ⟨m.cause.toArray⟩,.int .i64 m.day,.string ⟨m.inst.toArray⟩,.string ⟨m.other.toArray⟩,.string ⟨m.ratio.n.toArray⟩,.string ⟨m.ratio.d.toArray⟩,.string ⟨m.share.n.toArray⟩,.string ⟨m.share.d.toArray⟩,.string ⟨m.price.n.toArray⟩,.string ⟨m.price.d.toArray⟩,.bool m.keep] 28);clear hs hl hn hm hr hsh hz hp hcap;generalize Xl ls=ca at*;generalize JE m=cm at*;unfold Qq at HCA;unfold MpV at HCM ⊢;rw[Vh] at HCM ⊢
 by_cases h1:ca=0
 ·subst h1
  by_cases h2:cm=0
  ·subst h2;go_enter Tryz.func33,Tryz.ntmps33
   go_wp2_with fail
   generalize w.alloc _=W0 at*;refine(HCA.out _ H.out.bl).mono ?_;rintro e w1 ⟨rfl,hb⟩;replace H:=jq (H.out.here hb);clear hb;obtain⟨x0,x1,x2,x3,x4,x5,x6,x7,x8,x9,x10⟩:=z11 H.out (i:=0) rfl
   go_wp2_with fail
   refine(HCM.out _ H.out.pw).mono ?_;rintro e w2 ⟨rfl,hb⟩;go_wp2_with fail
   first|go_ret|skip
   exact⟨rfl,(H.out.here hb).bl⟩
  ·have h3:(cm==0)=false:=by simp[h2]
   have h4:decide (cm=0)=false:=by simp[h2]
   rw[h4];clear h2 h4;go_enter Tryz.func33,Tryz.ntmps33
   go_wp2_with fail
   generalize w.alloc _=W0 at*;refine(HCA.out _ H.out.bl).mono ?_;rintro e w1 ⟨rfl,hb⟩;replace H:=jq (H.out.here hb);clear hb;obtain⟨x0,x1,x2,x3,x4,x5,x6,x7,x8,x9,x10⟩:=z11 H.out (i:=0) rfl
   go_wp2_with fail
   refine(HCM.out _ H.out.pw).mono ?_;rintro e w2 ⟨rfl,hb⟩;go_wp2_with fail
   first|go_ret|skip
   exact⟨rfl,(H.out.here hb).bl⟩
 ·have h3:(ca==0)=false:=by simp[h1]
  have h4:decide (ca=0)=false:=by simp[h1]
  rw[h4,Bool.false_and];clear h1 h4;go_enter Tryz.func33,Tryz.ntmps33
  go_wp2_with fail
  generalize w.alloc _=W0 at*;refine(HCA.out _ H.out.bl).mono ?_;rintro e w1 ⟨rfl,hb⟩;go_wp2_with fail
  first|go_ret|skip
  exact⟨rfl,(H.out.here hb).bl⟩
end
section
attribute [local go_sem ↓] Go.wp_at_zero Go.wp_at_succ
end
end Go.Proofs.YtpnncoinlopndaaGreatDoor
