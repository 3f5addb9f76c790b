/- X14, X9. -/
import Derived.Test.YtmfjmngebldanaaGreatDoorQGVe26
set_option maxRecDepth 100000
set_option maxHeartbeats 8000000
namespace Go.Proofs.YtmfjmngebldanaaGreatDoor
open Go.Lib renaming hid→jq
open Go.RowKit Go.Shelf
section
attribute [local go_sem ↓] Go.wp_at_zero Go.wp_at_succ Ql
theorem Zmt:Zfq ⟨[49],[49]⟩=(⟨[49],[]⟩,0):=by decide+kernel
theorem Zmu:Qe 1=[49]:=by decide+kernel
theorem ZkZ:(⟨[49],[]⟩:Fr).rat=1:=by decide+kernel
theorem Zgu(w:World):Calls Tryz.prog 125 #[.int .i64 1,.int .i64 1] w fun e w'=>e=.returned (Xg ⟨[49],[]⟩)/\Below w.1.size w w':=by
 have HB:=jq (show FrB (w.alloc (.cells #[.string ⟨#[]⟩,.string ⟨#[]⟩] 39)) w.1.size Fr.zero from FrB.new w Fr.zero);have HBA:=jq (show Below w.1.size w (w.alloc (.cells #[.string ⟨#[]⟩,.string ⟨#[]⟩] 39)) from(Below.refl _ _).alloc (Nat.le_refl _) _);have HO:=jq (fun W=>ZaL 1 (by decide) (by decide) W);have HN:=jq (fun W=>ZkT ⟨[49],[49]⟩ W ⟨by decide,by decide⟩);unfold ZbF at HN;rw[Zmt] at HN;rw[Zmu] at HO;unfold Xg at*
 unfold S at*
 go_enter Tryz.func125,Tryz.ntmps125
 go_wp2_with fail
 generalize w.alloc _=W at*;refine(HO.out _).mono ?_;rintro e w1 ⟨rfl,rfl⟩;go_wp2_with fail
 refine(HO.out _).mono ?_;rintro e w1 ⟨rfl,rfl⟩;go_wp2_with fail
 refine(HN.out _).mono ?_;rintro e w2 ⟨rfl,hb2⟩;have HB2:=jq (HB.out.here hb2);have hb02:=HBA.out.trans (hb2.mono HBA.out.size);have HB3:=jq (HB2.out.here ((Below.refl w2.1.size w2).alloc (Nat.le_refl _) (.cells #[.string ⟨#[49]⟩,.string ⟨#[]⟩] 39)));obtain⟨c0,c1⟩:=HB3.out.cells
 have f0:=HB3.out.frozen 0;have f1:=HB3.out.frozen 1;go_wp2_with fail
 all_goals first
  |(refine bodyPost_ret (v:=.agg #[.string ⟨#[49]⟩,.string ⟨#[]⟩]) (by simp[results,Tryz.results125,go_sem,c0,c1]) rfl ?_
    exact⟨rfl,((hb02.alloc hb02.size _).setCell (p:=⟨w.1.size,0,none⟩) (Nat.le_refl _) _).setCell (p:=⟨w.1.size,1,none⟩) (Nat.le_refl _) _⟩)
theorem Ziy(g:Fr):Qv false true g=if Qv false false g≠0 then Qv false false g else if 0<Xj g.rat 1 then 2 else 0:=by
 have e:=Zfr false g;unfold Qv;unfold Qv at e
 by_cases h1:g.ok
 ·have e1:¬ ¬g.ok:=fun h=>h h1
  simp only[if_neg e1]
  by_cases h2:40<XV g.n\/40<XV g.d
  ·simp only[if_pos h2];rw[if_pos (by decide)]
  ·simp only[if_neg h2]
   by_cases h3:g.rat<0
   ·simp[h3]
   ·rcases ZhL g.rat 1 with ⟨e,h⟩|⟨e,h⟩|⟨e,h⟩
    ·have h4:¬1<g.rat:=Rat.not_lt.2 (Rat.le_of_lt h);simp[h3,h4,e]
    ·have h4:¬1<g.rat:=by rw[h];exact Rat.lt_irrefl
     simp[h3,h4,e]
    ·simp[h3,h,e]
 ·simp only[if_pos h1];rw[if_pos (by decide)]
theorem ZnU(f:Fct)(v:FaV)(r:KRow)(_hr:QE f.kind=some r)(_hh:r.has 0=true)(w:World)(hp:Env w)(hf:f.Sz 1000):Calls Tryz.prog 82 #[.agg (Qb f v),.int .i64 0] w fun e w'=>e=.returned (.int .i64 (Qy f r 0))/\Below w.1.size w w':=by
 have H:=jq ((Kp.start hp).new w.1.size rfl (Qb f v) 43);have K5:=jq (show(Qb f v)[5]?=some (.string ⟨f.inst.toArray⟩) from rfl);have HE:=jq (show Qy f r 0=if Qr f.inst=false then 23 else 0 from rfl);have HC:=jq (fun W=>ZdG f.inst W (Nat.le_trans hf.inst (by decide)));generalize Qy f r 0=res at*;generalize Qb f v=fb at*;rw[<-HE.out] at HC;clear _hr _hh hp hf HE;have x5:=H.out.c 0 5 rfl K5.out;clear K5;unfold S at HC;go_enter Tryz.func82,Tryz.ntmps82
 go_wp2_with fail
 refine(HC.out _).mono ?_;rintro e w1 ⟨rfl,rfl⟩;go_wp2_with fail
 first|go_ret|skip
 exact⟨rfl,H.out.bl⟩
theorem ZnV(f:Fct)(v:FaV)(r:KRow)(hr:QE f.kind=some r)(_hh:r.has 1=true)(w:World)(hp:Env w)(hf:f.Sz 1000):Calls Tryz.prog 82 #[.agg (Qb f v),.int .i64 1] w fun e w'=>e=.returned (.int .i64 (Qy f r 1))/\Below w.1.size w w':=by
 have H:=jq ((Kp.start hp).new w.1.size rfl (Qb f v) 43);have HE:=jq (Zgs f r hr);have HC:=jq (fun W hW=>Zgt f v W hW hf);have hl:=Qj (H.out.at_ 0 rfl) (Qg f v);generalize Qy f r 1=res at*;generalize Qb f v=fb at*;rw[<-HE.out] at HC;clear hr _hh hp hf HE;go_enter Tryz.func82,Tryz.ntmps82
 go_wp2_with fail
 refine(HC.out _ H.out.pw).mono ?_;rintro e w1 ⟨rfl,hb1⟩;go_wp2_with fail
 first|go_ret|skip
 exact⟨rfl,(H.out.here hb1).bl⟩
theorem ZnW(f:Fct)(v:FaV)(r:KRow)(_hr:QE f.kind=some r)(_hh:r.has 2=true)(w:World)(hp:Env w)(hf:f.Sz 1000):Calls Tryz.prog 82 #[.agg (Qb f v),.int .i64 2] w fun e w'=>e=.returned (.int .i64 (Qy f r 2))/\Below w.1.size w w':=by
 have H:=jq ((Kp.start hp).new w.1.size rfl (Qb f v) 43);have K7:=jq (show(Qb f v)[7]?=some (.string ⟨f.cur.toArray⟩) from rfl);have HE:=jq (show Qy f r 2=if Yq f.cur=false then 12 else 0 from rfl);have HC:=jq (fun W=>ZdF f.cur W (Nat.le_trans hf.cur (by decide)));generalize Qy f r 2=res at*;generalize Qb f v=fb at*;generalize Yq f.cur=cb at*;clear _hr _hh hp hf;have x7:=H.out.c 0 7 rfl K7.out;clear K7;unfold S at HC
 cases cb
 all_goals
  go_enter Tryz.func82,Tryz.ntmps82
  go_wp2_with fail
  refine(HC.out _).mono ?_;rintro e w1 ⟨rfl,rfl⟩;go_wp2_with fail
  first|go_ret|skip
  exact⟨Qa (by rw[HE.out];rfl),H.out.bl⟩
theorem ZnX(f:Fct)(v:FaV)(r:KRow)(_hr:QE f.kind=some r)(_hh:r.has 3=true)(w:World)(hp:Env w)(hf:f.Sz 1000):Calls Tryz.prog 82 #[.agg (Qb f v),.int .i64 3] w fun e w'=>e=.returned (.int .i64 (Qy f r 3))/\Below w.1.size w w':=by
 have H:=jq ((Kp.start hp).new w.1.size rfl (Qb f v) 43);have K8:=jq (show(Qb f v)[8]?=some (.string ⟨f.target.toArray⟩) from rfl);have HE:=jq (show Qy f r 3=if Qr f.target=false then 23 else 0 from rfl);have HC:=jq (fun W=>ZdG f.target W (Nat.le_trans hf.target (by decide)));generalize Qy f r 3=res at*;generalize Qb f v=fb at*;rw[<-HE.out] at HC;clear _hr _hh hp hf HE;have x8:=H.out.c 0 8 rfl K8.out;clear K8;unfold S at HC;go_enter Tryz.func82,Tryz.ntmps82
 go_wp2_with fail
 refine(HC.out _).mono ?_;rintro e w1 ⟨rfl,rfl⟩;go_wp2_with fail
 first|go_ret|skip
 exact⟨rfl,H.out.bl⟩
theorem ZnY(f:Fct)(v:FaV)(r:KRow)(hr:QE f.kind=some r)(hh:r.has 4=true)(w:World)(hp:Env w)(hf:f.Sz 1000):Calls Tryz.prog 82 #[.agg (Qb f v),.int .i64 4] w fun e w'=>e=.returned (.int .i64 (Qy f r 4))/\Below w.1.size w w':=by
 have H:=jq ((Kp.start hp).new w.1.size rfl (Qb f v) 43);have K9:=jq (show(Qb f v)[9]?=some (.string ⟨f.q.toArray⟩) from rfl)
 have HC:=jq (show ∀W,Calls Tryz.prog 121 #[.string ⟨f.q.toArray⟩,.string ⟨#[49]⟩] W fun e w'=>e=.returned (.int .i64 (Qy f r 4))/\W=w' from fun W=>by
  rw[show Qy f r 4=Qv true false ⟨f.q,[]⟩ from by simp[Qy,Zoe hr hh,Fct.num]];exact VN true f.q W (Nat.le_trans hf.q (by decide)))
 generalize Qy f r 4=res at*;generalize Qb f v=fb at*;clear hr hh hp hf;have x9:=H.out.c 0 9 rfl K9.out;clear K9;go_enter Tryz.func82,Tryz.ntmps82
 go_wp2_with fail
 refine(HC.out _).mono ?_;rintro e w1 ⟨rfl,rfl⟩;go_wp2_with fail
 first|go_ret|skip
 exact⟨rfl,H.out.bl⟩
theorem ZnZ(f:Fct)(v:FaV)(r:KRow)(hr:QE f.kind=some r)(hh:r.has 6=true)(w:World)(hp:Env w)(hf:f.Sz 1000):Calls Tryz.prog 82 #[.agg (Qb f v),.int .i64 6] w fun e w'=>e=.returned (.int .i64 (Qy f r 6))/\Below w.1.size w w':=by
 have H:=jq ((Kp.start hp).new w.1.size rfl (Qb f v) 43);have K11:=jq (show(Qb f v)[11]?=some (.string ⟨f.fee.toArray⟩) from rfl)
 have HC:=jq (show ∀W,Calls Tryz.prog 121 #[.string ⟨f.fee.toArray⟩,.string ⟨#[]⟩] W fun e w'=>e=.returned (.int .i64 (Qy f r 6))/\W=w' from fun W=>by
  rw[show Qy f r 6=Qv false false ⟨f.fee,[]⟩ from by simp[Qy,Zof hr hh,Fct.num]];exact VN false f.fee W (Nat.le_trans hf.fee (by decide)))
 generalize Qy f r 6=res at*;generalize Qb f v=fb at*;clear hr hh hp hf;have x11:=H.out.c 0 11 rfl K11.out;clear K11;go_enter Tryz.func82,Tryz.ntmps82
 go_wp2_with fail
 refine(HC.out _).mono ?_;rintro e w1 ⟨rfl,rfl⟩;go_wp2_with fail
 first|go_ret|skip
 exact⟨rfl,H.out.bl⟩
theorem Zn0(f:Fct)(v:FaV)(r:KRow)(hr:QE f.kind=some r)(hh:r.has 5=true)(w:World)(hp:Env w)(hf:f.Sz 1000):Calls Tryz.prog 82 #[.agg (Qb f v),.int .i64 5] w fun e w'=>e=.returned (.int .i64 (Qy f r 5))/\Below w.1.size w w':=by
 have H:=jq ((Kp.start hp).new w.1.size rfl (Qb f v) 43);have K10:=jq (show(Qb f v)[10]?=some (.string ⟨f.amount.toArray⟩) from rfl);have K4:=jq (show(Qb f v)[4]?=some (.int .i64 f.kind) from rfl);have HL:=jq (fun W=>Zf3 f.kind W)
 have HC:=jq (show ∀W,Calls Tryz.prog 121 #[.string ⟨f.amount.toArray⟩,S (if ZeP f.kind=true then[49] else[])] W fun e w'=>e=.returned (.int .i64 (Qy f r 5))/\W=w' from fun W=>by
  rw[show Qy f r 5=Qv (ZeP f.kind) false ⟨f.amount,[]⟩ from by simp[Qy,Zod hr hh,Fct.num]];exact VN (ZeP f.kind) f.amount W (Nat.le_trans hf.amount (by decide)))
 generalize Qy f r 5=res at*;generalize Qb f v=fb at*;generalize (if ZeP f.kind=true then([49]:List UInt8) else[])=ls at*;generalize f.kind=kd at*;clear hr hh hp hf;unfold S at*
 have x10:=H.out.c 0 10 rfl K10.out;have x4:=H.out.c 0 4 rfl K4.out;go_enter Tryz.func82,Tryz.ntmps82
 go_upto_region 14 with (fail)
 generalize w.alloc (.cells fb 43)=W0 at*;have hS:=jq (fun X (h:Bz W0 X)=>(show X.cell? ⟨w.1.size,10,none⟩=some (.string ⟨f.amount.toArray⟩)/\X.cell? ⟨w.1.size,4,none⟩=some (.int .i64 kd) from⟨(H.out.here h).c 0 10 rfl K10.out,(H.out.here h).c 0 4 rfl K4.out⟩))
 go_region_held3 (fun w'=>w'.cell? ⟨w.1.size,10,none⟩=some (.string ⟨f.amount.toArray⟩)/\w'.cell? ⟨w.1.size,4,none⟩=some (.int .i64 kd))
  (first|(exact hS.out _ (by repeat' (first|assumption|exact Bz.refl _|refine Bz.drew ?_|refine Bz.alloc ?_ _|refine Bz.set ?_ (by first|assumption|exact Nat.le_refl _|exact Bz.size (by assumption)) _ _)))|go_keep)
  (first
    |(go_at_call 122;refine(HL.out _).mono ?_;rintro e v1 ⟨rfl,rfl⟩)
    |(go_at_call 121;refine(HC.out _).mono ?_;rintro e v2 ⟨rfl,rfl⟩))
 all_goals
  go_wp2_with fail
  first|go_ret|skip
  exact⟨rfl,H.out.drew.bl⟩
theorem Zn1(f:Fct)(v:FaV)(r:KRow)(hr:QE f.kind=some r)(hh:r.has 7=true)(w:World)(hp:Env w)(hf:f.Sz 1000):Calls Tryz.prog 82 #[.agg (Qb f v),.int .i64 7] w fun e w'=>e=.returned (.int .i64 (Qy f r 7))/\Below w.1.size w w':=by
 have H:=jq ((Kp.start hp).new w.1.size rfl (Qb f v) 43);have K12:=jq (show(Qb f v)[12]?=some (.string ⟨f.price.n.toArray⟩) from rfl);have K13:=jq (show(Qb f v)[13]?=some (.string ⟨f.price.d.toArray⟩) from rfl);have K4:=jq (show(Qb f v)[4]?=some (.int .i64 f.kind) from rfl)
 have HC:=jq (show ∀W,Env W->Calls Tryz.prog 123 #[.agg #[.string ⟨f.price.n.toArray⟩,.string ⟨f.price.d.toArray⟩],.bool (ZhW f.kind)] W fun e w'=>e=.returned (.int .i64 (Qy f r 7))/\Below W.1.size W w' from fun W hW=>by
  rw[show Qy f r 7=Qv (ZhW f.kind) false f.price from by simp[Qy,Zog hr hh,Fct.num]];exact Vy f.price (ZhW f.kind) W hW ⟨by have:=hf.price.1;omega,by have:=hf.price.2;omega⟩)
 have HL:=jq (show ZhW f.kind=(decide (f.kind=5)||decide (f.kind=13)) from rfl);generalize ZhW f.kind=l7 at*;generalize Qy f r 7=res at*;generalize Qb f v=fb at*;clear hp hf;have x12:=H.out.c 0 12 rfl K12.out;have x13:=H.out.c 0 13 rfl K13.out;have x4:=H.out.c 0 4 rfl K4.out;clear hr hh K4;generalize f.kind=kd at*
 by_cases h5:kd=5
 ·subst h5;obtain rfl:l7=true:=HL.out;clear HL;go_enter Tryz.func82,Tryz.ntmps82
  go_wp2_with fail
  refine(HC.out _ H.out.pw).mono ?_;rintro e w1 ⟨rfl,hb1⟩;go_wp2_with fail
  first|go_ret|skip
  exact⟨rfl,(H.out.here hb1).bl⟩
 ·have h5':(kd==5)=false:=beq_false_of_ne h5
  by_cases h13:kd=13
  ·subst h13;obtain rfl:l7=true:=HL.out;clear HL h5;go_enter Tryz.func82,Tryz.ntmps82
   go_wp2_with fail
   refine(HC.out _ H.out.pw).mono ?_;rintro e w1 ⟨rfl,hb1⟩;go_wp2_with fail
   first|go_ret|skip
   exact⟨rfl,(H.out.here hb1).bl⟩
  ·have h13':(kd==13)=false:=beq_false_of_ne h13;obtain rfl:l7=false:=by rw[HL.out];simp[h5,h13]
   clear HL h5 h13;go_enter Tryz.func82,Tryz.ntmps82
   go_wp2_with fail
   refine(HC.out _ H.out.pw).mono ?_;rintro e w1 ⟨rfl,hb1⟩;go_wp2_with fail
   first|go_ret|skip
   exact⟨rfl,(H.out.here hb1).bl⟩
theorem Zn2(f:Fct)(v:FaV)(r:KRow)(hr:QE f.kind=some r)(hh:r.has 8=true)(w:World)(hp:Env w)(hf:f.Sz 1000):Calls Tryz.prog 82 #[.agg (Qb f v),.int .i64 8] w fun e w'=>e=.returned (.int .i64 (Qy f r 8))/\Below w.1.size w w':=by
 have H:=jq ((Kp.start hp).new w.1.size rfl (Qb f v) 43);have K14:=jq (show(Qb f v)[14]?=some (.string ⟨f.ratio.n.toArray⟩) from rfl);have K15:=jq (show(Qb f v)[15]?=some (.string ⟨f.ratio.d.toArray⟩) from rfl)
 have HC:=jq (show ∀W,Env W->Calls Tryz.prog 123 #[.agg #[.string ⟨f.ratio.n.toArray⟩,.string ⟨f.ratio.d.toArray⟩],.bool (true)] W fun e w'=>e=.returned (.int .i64 (Qy f r 8))/\Below W.1.size W w' from fun W hW=>by
  rw[show Qy f r 8=Qv (true) false f.ratio from by simp[Qy,Zoh hr hh,Fct.num]];exact Vy f.ratio (true) W hW ⟨by have:=hf.ratio.1;omega,by have:=hf.ratio.2;omega⟩)
 generalize Qy f r 8=res at*;generalize Qb f v=fb at*;clear hp hf;have x14:=H.out.c 0 14 rfl K14.out;have x15:=H.out.c 0 15 rfl K15.out;clear hr hh;go_enter Tryz.func82,Tryz.ntmps82
 go_wp2_with fail
 refine(HC.out _ H.out.pw).mono ?_;rintro e w1 ⟨rfl,hb1⟩;go_wp2_with fail
 first|go_ret|skip
 exact⟨rfl,(H.out.here hb1).bl⟩
theorem Zn3(f:Fct)(v:FaV)(r:KRow)(hr:QE f.kind=some r)(hh:r.has 9=true)(w:World)(hp:Env w)(hf:f.Sz 1000):Calls Tryz.prog 82 #[.agg (Qb f v),.int .i64 9] w fun e w'=>e=.returned (.int .i64 (Qy f r 9))/\Below w.1.size w w':=by
 have H:=jq ((Kp.start hp).new w.1.size rfl (Qb f v) 43);have K16:=jq (show(Qb f v)[16]?=some (.string ⟨f.share.n.toArray⟩) from rfl);have K17:=jq (show(Qb f v)[17]?=some (.string ⟨f.share.d.toArray⟩) from rfl);have HC:=jq (fun W hW=>Vy f.share false W hW ⟨by have:=hf.share.1;omega,by have:=hf.share.2;omega⟩);have HR:=jq (fun W=>Zgu W);have HM:=jq (fun W=>ZaM f.share ⟨[49],[]⟩ W ⟨by have:=hf.share.1;omega,by have:=hf.share.2;omega⟩ ⟨by decide,by decide⟩)
 have HE:=jq (show Qy f r 9=if Qv false false f.share≠0 then Qv false false f.share else if 0<Xj f.share.rat 1 then 2 else 0 from by
  rw[show Qy f r 9=Qv false true f.share from by simp[Qy,Zoi hr hh,Fct.num]];exact Ziy f.share)
 rw[ZkZ] at HM;generalize Qv false false f.share=nc at*;generalize Xj f.share.rat 1=cm at*;generalize Qy f r 9=res at*;generalize Qb f v=fb at*;clear hr hh hp hf;unfold QR at HM;unfold Xg at*
 unfold S at*
 have x16:=H.out.c 0 16 rfl K16.out;have x17:=H.out.c 0 17 rfl K17.out
 by_cases h0:nc=0
 ·subst h0;rw[if_neg (by decide)] at HE;go_enter Tryz.func82,Tryz.ntmps82
  go_wp2_with fail
  refine(HC.out _ H.out.pw).mono ?_;rintro e w1 ⟨rfl,hb1⟩;have H1:=jq (H.out.here hb1);clear x16 x17;have x16:=H1.out.c 0 16 rfl K16.out;have x17:=H1.out.c 0 17 rfl K17.out;have hS:=jq (fun X (h:Bz w1 X)=>(show X.cell? ⟨w.1.size,16,none⟩=some (.string ⟨f.share.n.toArray⟩)/\X.cell? ⟨w.1.size,17,none⟩=some (.string ⟨f.share.d.toArray⟩) from⟨(H1.out.here h).c 0 16 rfl K16.out,(H1.out.here h).c 0 17 rfl K17.out⟩));go_upto_region 25 with (fail)
  by_cases hc:0<cm
  ·rw[if_pos hc] at HE
   go_region_held3 (fun w'=>w'.cell? ⟨w.1.size,16,none⟩=some (.string ⟨f.share.n.toArray⟩)/\w'.cell? ⟨w.1.size,17,none⟩=some (.string ⟨f.share.d.toArray⟩))
    (first|(exact hS.out _ (by repeat' (first|assumption|exact Bz.refl _|refine Bz.drew ?_|refine Bz.alloc ?_ _|refine Bz.set ?_ (by first|assumption|exact Nat.le_refl _|exact Bz.size (by assumption)) _ _)))|go_keep)
    (first
      |(go_at_call 125;refine(HR.out _).mono ?_;rintro e v1 ⟨rfl,hb2⟩;have hz1:Bz w1 v1:=Bz.call (by repeat' (first|assumption|exact Bz.refl _|refine Bz.drew ?_|refine Bz.alloc ?_ _|refine Bz.set ?_ (by first|assumption|exact Nat.le_refl _|exact Bz.size (by assumption)) _ _)) hb2)
      |(go_at_call 124;refine(HM.out _).mono ?_;rintro e v2 ⟨rfl,hb3⟩;have hz2:Bz w1 v2:=Bz.call (by repeat' (first|assumption|exact Bz.refl _|refine Bz.drew ?_|refine Bz.alloc ?_ _|refine Bz.set ?_ (by first|assumption|exact Nat.le_refl _|exact Bz.size (by assumption)) _ _)) hb3))
   all_goals
    go_wp2_with fail
    first|go_ret|skip
    exact⟨Qa HE.out.symm,(H1.out.here hz2).bl⟩
  ·rw[if_neg hc] at HE
   go_region_held3 (fun w'=>w'.cell? ⟨w.1.size,16,none⟩=some (.string ⟨f.share.n.toArray⟩)/\w'.cell? ⟨w.1.size,17,none⟩=some (.string ⟨f.share.d.toArray⟩))
    (first|(exact hS.out _ (by repeat' (first|assumption|exact Bz.refl _|refine Bz.drew ?_|refine Bz.alloc ?_ _|refine Bz.set ?_ (by first|assumption|exact Nat.le_refl _|exact Bz.size (by assumption)) _ _)))|go_keep)
    (first
      |(go_at_call 125;refine(HR.out _).mono ?_;rintro e v1 ⟨rfl,hb2⟩;have hz1:Bz w1 v1:=Bz.call (by repeat' (first|assumption|exact Bz.refl _|refine Bz.drew ?_|refine Bz.alloc ?_ _|refine Bz.set ?_ (by first|assumption|exact Nat.le_refl _|exact Bz.size (by assumption)) _ _)) hb2)
      |(go_at_call 124;refine(HM.out _).mono ?_;rintro e v2 ⟨rfl,hb3⟩;have hz2:Bz w1 v2:=Bz.call (by repeat' (first|assumption|exact Bz.refl _|refine Bz.drew ?_|refine Bz.alloc ?_ _|refine Bz.set ?_ (by first|assumption|exact Nat.le_refl _|exact Bz.size (by assumption)) _ _)) hb3))
   all_goals
    go_wp2_with fail
    first|go_ret|skip
    exact⟨Qa HE.out.symm,(H1.out.here hz2).bl⟩
 ·rw[if_pos h0] at HE;have hn1:(nc !=0)=true:=by simpa using h0
  clear h0;go_enter Tryz.func82,Tryz.ntmps82
  go_wp2_with fail
  refine(HC.out _ H.out.pw).mono ?_;rintro e w1 ⟨rfl,hb1⟩;go_wp2_with fail
  first|go_ret|skip
  exact⟨Qa HE.out.symm,(H.out.here hb1).bl⟩
theorem Znm(f:Fct)(v:FaV)(r:KRow)(_hr:QE f.kind=some r)(_hh:r.has 10=true)(w:World)(hp:Env w)(hf:f.Sz 1000)(hm:FaM w w.1.size f v)(hn:v.pn<=100000):Calls Tryz.prog 82 #[.agg (Qb f v),.int .i64 10] w fun e w'=>e=.returned (.int .i64 (Qy f r 10))/\Below w.1.size w w':=by
 have H:=jq ((Kp.start hp).new w.1.size rfl (Qb f v) 43);have HE:=jq (show Qy f r 10=YM f from rfl);have HC:=jq (Zgr f v _ H.out.pw hf (hm.here H.out.bl) hn);have hl:=Qj (H.out.at_ 0 rfl) (Qg f v);generalize Qy f r 10=res at*;generalize Qb f v=fb at*;generalize YM f=pc at*;clear _hr _hh hp hf hm hn;go_enter Tryz.func82,Tryz.ntmps82
 go_wp2_with fail
 refine HC.out.mono ?_;rintro e w1 ⟨rfl,hb1⟩;go_wp2_with fail
 first|go_ret|skip
 exact⟨Qa HE.out.symm,(H.out.here hb1).bl⟩
theorem Znn(f:Fct)(v:FaV)(r:KRow)(_hr:QE f.kind=some r)(_hh:r.has 11=true)(w:World)(hp:Env w)(hf:f.Sz 1000)(hm:FaM w w.1.size f v)(hn:v.on<=100000)(hi:f.inst≠[]):Calls Tryz.prog 82 #[.agg (Qb f v),.int .i64 11] w fun e w'=>e=.returned (.int .i64 (Qy f r 11))/\Below w.1.size w w':=by
 have H:=jq ((Kp.start hp).new w.1.size rfl (Qb f v) 43);have HE:=jq (show Qy f r 11=VU f from rfl);have HC:=jq (Zek f v _ H.out.pw hf (hm.here H.out.bl) hn hi);have hl:=Qj (H.out.at_ 0 rfl) (Qg f v);generalize Qy f r 11=res at*;generalize Qb f v=fb at*;generalize VU f=pc at*;clear _hr _hh hp hf hm hn hi;go_enter Tryz.func82,Tryz.ntmps82
 go_wp2_with fail
 refine HC.out.mono ?_;rintro e w1 ⟨rfl,hb1⟩;go_wp2_with fail
 first|go_ret|skip
 exact⟨Qa HE.out.symm,(H.out.here hb1).bl⟩
theorem Zno(f:Fct)(v:FaV)(r:KRow)(_hr:QE f.kind=some r)(_hh:r.has 12=true)(w:World)(hp:Env w)(_hf:f.Sz 1000):Calls Tryz.prog 82 #[.agg (Qb f v),.int .i64 12] w fun e w'=>e=.returned (.int .i64 (Qy f r 12))/\Below w.1.size w w':=by
 have H:=jq ((Kp.start hp).new w.1.size rfl (Qb f v) 43);have K20:=jq (show(Qb f v)[20]?=some (.int .i64 f.choice) from rfl);have HE:=jq (show Qy f r 12=if f.choice<0 then 2 else 0 from rfl);generalize Qy f r 12=res at*;generalize Qb f v=fb at*;generalize f.choice=ch at*;clear _hr _hh hp _hf;have x20:=H.out.c 0 20 rfl K20.out
 by_cases hc:ch<0
 ·rw[if_pos hc] at HE;go_enter Tryz.func82,Tryz.ntmps82
  go_wp2_with fail
  first|go_ret|skip
  exact⟨Qa HE.out.symm,H.out.bl⟩
 ·rw[if_neg hc] at HE;go_enter Tryz.func82,Tryz.ntmps82
  go_wp2_with fail
  first|go_ret|skip
  exact⟨Qa HE.out.symm,H.out.bl⟩
theorem Zmv(f:Fct)(v:FaV)(r:KRow)(hr:QE f.kind=some r)(i:Nat)(hi:i<13)(hh:r.has i=true)(hin:i=11->f.inst≠[])(w:World)(hp:Env w)(hf:f.Sz 1000)(hm:FaM w w.1.size f v)(hpn:v.pn<=100000)(hon:v.on<=100000):
 Calls Tryz.prog 82 #[.agg (Qb f v),.int .i64 (i:Int)] w fun e w'=>e=.returned (.int .i64 (Qy f r i))/\Below w.1.size w w':=by
 rcases(show i=0\/i=1\/i=2\/i=3\/i=4\/i=5\/i=6\/i=7\/i=8\/i=9\/i=10\/i=11\/i=12 by omega) with rfl|rfl|rfl|rfl|rfl|rfl|rfl|rfl|rfl|rfl|rfl|rfl|rfl
 ·exact ZnU f v r hr hh w hp hf
 ·exact ZnV f v r hr hh w hp hf
 ·exact ZnW f v r hr hh w hp hf
 ·exact ZnX f v r hr hh w hp hf
 ·exact ZnY f v r hr hh w hp hf
 ·exact Zn0 f v r hr hh w hp hf
 ·exact ZnZ f v r hr hh w hp hf
 ·exact Zn1 f v r hr hh w hp hf
 ·exact Zn2 f v r hr hh w hp hf
 ·exact Zn3 f v r hr hh w hp hf
 ·exact Znm f v r hr hh w hp hf hm hpn
 ·exact Znn f v r hr hh w hp hf hm hon (hin rfl)
 ·exact Zno f v r hr hh w hp hf
end
section
attribute [local go_sem] Oper.semAt_some
attribute [local go_sem ↓] Go.wp_at_zero Go.wp_at_succ Ql
theorem Zn4{k:Int}{r:KRow}(h:QE k=some r)(hi:r.has 11=true):r.has 0=true:=by
 unfold QE at h
 split at h<;>first|(cases h;done)|(injection h with h;subst h;first|rfl|exact absurd hi (by decide))
theorem Zmw{s:List UInt8}(h:Qr s=true):s≠[]:=by
 rintro rfl;exact absurd h (by decide)
theorem Zft(f:Fct)(v:FaV)(w:World)(hp:Env w)(hf:f.Sz 1000)(hm:FaM w w.1.size f v)(hpn:v.pn<=100000)(hon:v.on<=100000):
 Calls Tryz.prog 52 #[.agg (Qb f v)] w fun e w'=>e=.returned (.int .i64 (Qt f))/\Below w.1.size w w':=by
 have H:=jq ((Kp.start hp).new w.1.size rfl (Qb f v) 43);have HN:=jq (fun W=>Vw f.key W (Nat.le_trans hf.key (by decide)));have HD:=jq (fun W=>ZkN f.day W);have HW:=jq (fun W=>ZhX f.kind W);have HHA:=jq (fun(j:Nat) W=>ZjJ f.kind j W);have HEM:=jq (fun(j:Nat) (hj:j<13) (W:World) (hb:Below w.1.size w W)=>Ziw f v j hj W (hp.here hb) hm.pk.1 hm.op.1)
 have HFD:=jq (fun(r:KRow) (hr:QE f.kind=some r) (j:Nat) (hj:j<13) (hh:r.has j=true) (hin:j=11->f.inst≠[]) (W:World) (hb:Below w.1.size w W)=>
  Zmv f v r hr j hj hh hin W (hp.here hb) hf (hm.here hb) hpn hon)
 have HV:=jq (fun hc=>ZjH f hc);have HST:=jq (fun r i hi=>Zf2 f r i hi)
 have HE:=jq (show Qt f=if Qr f.key=false then 23 else if f.stamp<0 then 2
  else if f.cancelled=true then(if f=⟨f.key,f.stamp,true,0,0,[],[],[],[],[],[],[],⟨[],[]⟩,⟨[],[]⟩,⟨[],[]⟩,[],[],0⟩ then 0 else 1)
  else if f.day< -25567\/84005<f.day then 13
  else match QE f.kind with
   |none=>7
   |some r=>YA f r 0 13 from rfl)
 have HK:=jq (show(Qb f v)[4]?=some (.int .i64 f.kind) from rfl);have HZ:=jq (Qg f v);have HC0:=jq (show(Qb f v)[0]?=some (.string ⟨f.key.toArray⟩) from rfl);have HC1:=jq (show(Qb f v)[1]?=some (.int .i64 f.stamp) from rfl);have HC2:=jq (show(Qb f v)[2]?=some (.bool f.cancelled) from rfl);have HC3:=jq (show(Qb f v)[3]?=some (.int .i64 f.day) from rfl);generalize Qt f=res at*;generalize Qb f v=fb at*;have x0:=H.out.c 0 0 rfl HC0.out;have x1:=H.out.c 0 1 rfl HC1.out;have x2:=H.out.c 0 2 rfl HC2.out;have x3:=H.out.c 0 3 rfl HC3.out;have x4:=H.out.c 0 4 rfl HK.out;clear hp hf hm hpn hon;unfold S at*
 cases hnb:Qr f.key with
 |false=>
  rw[if_pos hnb] at HE;rw[hnb] at HN;clear hnb;go_enter Tryz.func52,Tryz.ntmps52
  go_wp2_with fail
  refine(HN.out _).mono ?_;rintro e w1 ⟨rfl,rfl⟩;go_wp2_with fail
  first|go_ret|skip
  exact⟨Qa HE.out.symm,H.out.bl⟩
 |true=>
 rw[if_neg (by rw[hnb];decide)] at HE;rw[hnb] at HN;clear hnb
 by_cases hs:f.stamp<0
 ·rw[if_pos hs] at HE;go_enter Tryz.func52,Tryz.ntmps52
  go_wp2_with fail
  refine(HN.out _).mono ?_;rintro e w1 ⟨rfl,rfl⟩;go_wp2_with fail
  first|go_ret|skip
  exact⟨Qa HE.out.symm,H.out.bl⟩
 rw[if_neg hs] at HE
 cases hcn:f.cancelled with
 |true=>
  have HV2:=jq (HV.out hcn);rw[if_pos hcn] at HE;rw[hcn] at x2;clear hcn HV HD HW HHA HFD HST;go_enter Tryz.func52,Tryz.ntmps52
  go_wp2_with fail
  refine(HN.out _).mono ?_;rintro e w1 ⟨rfl,rfl⟩;go_wp2_with fail
  generalize w.alloc (.cells fb 43)=W0 at*;clear x0 x1 x2 x3 x4 HN
  go_loopw [2,3] (fun r i W=>∃j:Nat,j<=13/\r=.int .i64 0/\i=.int .i64 j/\Hid (Kp w [(w.1.size,fb,43)] W)/\Hid (∀q:Nat,q<j->f.none q=true)) (fun _ i _=>13-(intOf i).toNat)
  case atStart=>exact⟨0,by omega,rfl,rfl,H,fun q hq=>absurd hq (Nat.not_lt_zero _)⟩
  case round=>
   clear H;obtain⟨j,hj,rfl,rfl,H,HA⟩:=hrel
   by_cases hlt:j<13
   ·have hl:=Qj (H.out.at_ 0 rfl) HZ.out;have HCE:=jq (HEM.out j hlt)
    cases hn:f.none j with
    |false=>
     rw[if_neg (fun h=>by have:=((HV2.out.1 h).1 j hlt);rw[hn] at this;cases this)] at HE;rw[hn] at HCE;clear hn;go_wp2_with fail
     refine(HCE.out _ H.out.bl).mono ?_;rintro e w3 ⟨rfl,hb3⟩;go_wp2_with fail
     first|go_ret|skip
     exact⟨Qa HE.out.symm,(H.out.here hb3).bl⟩
    |true=>
     rw[hn] at HCE
     have HA2:=jq (show ∀q:Nat,q<j+1->f.none q=true from fun q hq=>by
      rcases Nat.lt_succ_iff_lt_or_eq.1 hq with h|rfl
      ·exact HA.out q h
      ·exact hn)
     clear hn;go_wp2_with fail
     refine(HCE.out _ H.out.bl).mono ?_;rintro e w3 ⟨rfl,hb3⟩;go_wp2_with fail
     go_roundw
     case rel=>exact⟨j+1,by omega,rfl,by go_num,H.out.here hb3,HA2.out⟩
     case measure=>simp[intOf];omega
   ·obtain rfl:j=13:=by omega
    have HB:=jq (HV2.out.trans ⟨fun h=>h.2,fun h=>⟨HA.out,h⟩⟩);have x3:=H.out.c 0 3 rfl HC3.out;have x4:=H.out.c 0 4 rfl HK.out;clear HA HV2 HEM
    by_cases hd:f.day=0
    ·rw[hd] at x3
     by_cases hk:f.kind=0
     ·rw[if_pos (HB.out.2 ⟨hd,hk⟩)] at HE;rw[hk] at x4;clear hd hk;go_wp2_with fail
      first|go_ret|skip
      exact⟨Qa HE.out.symm,H.out.bl⟩
     ·rw[if_neg (fun h=>hk (HB.out.1 h).2)] at HE;have hk':(f.kind==0)=false:=beq_false_of_ne hk;have hk2:(f.kind !=0)=true:=by simpa using hk
      clear hd hk;go_wp2_with fail
      first|go_ret|skip
      exact⟨Qa HE.out.symm,H.out.bl⟩
    ·rw[if_neg (fun h=>hd (HB.out.1 h).1)] at HE;have hk':(f.day==0)=false:=beq_false_of_ne hd;have hk2:(f.day !=0)=true:=by simpa using hd
     clear hd;go_wp2_with fail
     first|go_ret|skip
     exact⟨Qa HE.out.symm,H.out.bl⟩
 |false=>
 rw[if_neg (by rw[hcn];decide)] at HE;rw[hcn] at x2;clear hcn HV
 by_cases hd:f.day< -25567\/84005<f.day
 ·rw[if_pos hd] at HE HD;clear hd;go_enter Tryz.func52,Tryz.ntmps52
  go_wp2_with fail
  refine(HN.out _).mono ?_;rintro e w1 ⟨rfl,rfl⟩;go_wp2_with fail
  refine(HD.out _).mono ?_;rintro e w1 ⟨rfl,rfl⟩;go_wp2_with fail
  first|go_ret|skip
  exact⟨Qa HE.out.symm,H.out.bl⟩
 rw[if_neg hd] at HE HD;clear hd
 cases hr:QE f.kind with
 |none=>
  rw[hr] at HE;have hb:=(JA f.kind).1 hr;rw[decide_eq_true hb] at HW;clear hr hb HFD HHA HEM;go_enter Tryz.func52,Tryz.ntmps52
  go_wp2_with fail
  refine(HN.out _).mono ?_;rintro e w1 ⟨rfl,rfl⟩;go_wp2_with fail
  refine(HD.out _).mono ?_;rintro e w1 ⟨rfl,rfl⟩;go_wp2_with fail
  refine(HW.out _).mono ?_;rintro e w1 ⟨⟨s,rfl,hse⟩,rfl⟩;obtain rfl:s=[]:=List.isEmpty_iff.1 hse;go_wp2_with fail
  first|go_ret|skip
  exact⟨Qa HE.out.symm,H.out.bl⟩
 |some r=>
 rw[hr] at HE
 have hb:¬(f.kind<1\/18<f.kind):=fun h=>by rw[(JA f.kind).2 h] at hr;cases hr
 rw[decide_eq_false hb] at HW;have HFR:=jq (HFD.out r hr)
 have HHB:=jq (show ∀(j:Nat) (W:World),j<13->Calls Tryz.prog 81 #[.int .i64 f.kind,.int .i64 (j:Int)] W fun e w'=>e=.returned (.bool (r.has j))/\Below W.1.size W w' from fun j W hj=>by
  rw[<-ZlF hr j hj];exact HHA.out j W)
 have H11:=jq (show r.has 11=true->r.has 0=true from Zn4 hr);have H0:=jq (show Qy f r 0=if Qr f.inst=false then 23 else 0 from rfl);clear hr hb HFD HHA;go_enter Tryz.func52,Tryz.ntmps52
 go_wp2_with fail
 refine(HN.out _).mono ?_;rintro e w1 ⟨rfl,rfl⟩;go_wp2_with fail
 refine(HD.out _).mono ?_;rintro e w1 ⟨rfl,rfl⟩;go_wp2_with fail
 refine(HW.out _).mono ?_;rintro e w1 ⟨⟨s,rfl,hse⟩,rfl⟩
 have hs':(s==[])=false:=by cases s with|nil=>cases hse|cons a t=>rfl
 go_wp2_with fail
 generalize w.alloc (.cells fb 43)=W0 at*;clear x0 x1 x2 x3 x4 HN HD HW hse hs' hs
 go_loopw [2,4,5] (fun z i _ W=>∃j:Nat,j<=13/\z=.int .i64 0/\i=.int .i64 j/\Hid (Kp w [(w.1.size,fb,43)] W)/\Hid (0<j->r.has 0=true->f.inst≠[])/\Hid (res=YA f r j (13-j))) (fun _ i _ _=>13-(intOf i).toNat)
 case atStart=>exact⟨0,by omega,rfl,rfl,H,fun h=>absurd h (Nat.lt_irrefl _),HE.out⟩
 case round=>
  clear H HE;obtain⟨j,hj,rfl,rfl,H,HI,HQ⟩:=hrel
  by_cases hlt:j<13
  ·have hq:=HQ.out;rw[HST.out r j hlt] at hq;have hl:=Qj (H.out.at_ 0 rfl) HZ.out;have x4:=H.out.c 0 4 rfl HK.out;have HHJ:=jq (fun W=>HHB.out j W hlt)
   cases hh:r.has j with
   |true=>
    rw[if_pos hh] at hq;have HQ2:=jq hq;have HCL:=jq (HFR.out j hlt hh (fun e=>HI.out (by omega) (H11.out (by rw[<-e];exact hh))));rw[hh] at HHJ
    by_cases h0:Qy f r j=0
    ·have HI2:=jq (show 0<j+1->r.has 0=true->f.inst≠[] from fun _ hr0=>by
      by_cases hj0:j=0
      ·subst hj0;rw[H0.out] at h0;exact Zmw (by cases hn:Qr f.inst with|true=>rfl|false=>rw[if_pos hn] at h0;cases h0)
      ·exact HI.out (by omega) hr0)
     rw[if_neg (by simpa using h0)] at HQ2;rw[h0] at HCL;clear h0 hq hh HQ;go_wp2_with fail
     refine(HHJ.out _).mono ?_;rintro e w2 ⟨rfl,hb2⟩;replace H:=jq (H.out.here hb2);clear hl x4 hb2;have hl:=Qj (H.out.at_ 0 rfl) HZ.out;go_wp2_with fail
     refine(HCL.out _ H.out.bl).mono ?_;rintro e w3 ⟨rfl,hb3⟩;go_wp2_with fail
     go_roundw
     case rel=>exact⟨j+1,by omega,rfl,by go_num,H.out.here hb3,HI2.out,HQ2.out⟩
     case measure=>simp[intOf];omega
    ·rw[if_pos (by simpa using h0)] at HQ2;generalize Qy f r j=z at*;have h0':(z==0)=false:=beq_false_of_ne h0;have h02:(z !=0)=true:=by simpa using h0
     clear h0 hq hh HQ;go_wp2_with fail
     refine(HHJ.out _).mono ?_;rintro e w2 ⟨rfl,hb2⟩;replace H:=jq (H.out.here hb2);clear hl x4 hb2;have hl:=Qj (H.out.at_ 0 rfl) HZ.out;go_wp2_with fail
     refine(HCL.out _ H.out.bl).mono ?_;rintro e w3 ⟨rfl,hb3⟩;go_wp2_with fail
     first|go_ret|skip
     exact⟨Qa HQ2.out.symm,(H.out.here hb3).bl⟩
   |false=>
    rw[if_neg (by rw[hh];decide)] at hq;have HQ2:=jq hq;have HCE:=jq (HEM.out j hlt)
    have HI2:=jq (show 0<j+1->r.has 0=true->f.inst≠[] from fun _ hr0=>by
     by_cases hj0:j=0
     ·subst hj0;rw[hh] at hr0
      cases hr0
     ·exact HI.out (by omega) hr0)
    rw[hh] at HHJ;clear hq hh HQ
    cases hn:f.none j with
    |false=>
     rw[if_pos hn] at HQ2;rw[hn] at HCE;clear hn;go_wp2_with fail
     refine(HHJ.out _).mono ?_;rintro e w2 ⟨rfl,hb2⟩;replace H:=jq (H.out.here hb2);clear hl x4 hb2;have hl:=Qj (H.out.at_ 0 rfl) HZ.out;go_wp2_with fail
     refine(HCE.out _ H.out.bl).mono ?_;rintro e w3 ⟨rfl,hb3⟩;go_wp2_with fail
     first|go_ret|skip
     exact⟨Qa HQ2.out.symm,(H.out.here hb3).bl⟩
    |true=>
     rw[if_neg (by rw[hn];decide)] at HQ2;rw[hn] at HCE;clear hn;go_wp2_with fail
     refine(HHJ.out _).mono ?_;rintro e w2 ⟨rfl,hb2⟩;replace H:=jq (H.out.here hb2);clear hl x4 hb2;have hl:=Qj (H.out.at_ 0 rfl) HZ.out;go_wp2_with fail
     refine(HCE.out _ H.out.bl).mono ?_;rintro e w3 ⟨rfl,hb3⟩;go_wp2_with fail
     go_roundw
     case rel=>exact⟨j+1,by omega,rfl,by go_num,H.out.here hb3,HI2.out,HQ2.out⟩
     case measure=>simp[intOf];omega
  ·have ej:j=13:=by omega
   subst ej;have h13:¬((13:Nat):Int)<13:=by decide
   go_wp2_with fail
   first|go_ret|skip
   exact⟨Qa HQ.out.symm,H.out.bl⟩
end
end Go.Proofs.YtmfjmngebldanaaGreatDoor
