/- . -/
import Derived.Test.YtpnncoinlopndaaGreatDoorQGMp20
import Derived.Test.YtpnncoinlopndaaGreatDoorQGMp41
import Derived.Test.YtpnncoinlopndaaGreatDoorQGMp37
set_option maxRecDepth 100000
set_option maxHeartbeats 16000000
namespace Go.Proofs.YtpnncoinlopndaaGreatDoor
open Go.Lib renaming hid→jq
open Go.RowKit Go.Shelf
attribute [local go_sem ↓] Go.wp_at_zero Go.wp_at_succ
theorem SzR.mapC{ls:List Lot}{m:Mp}{n L:Nat}(h:SzR ls m n L)(h1:Xl ls=0)(h2:JE m=0):MapC ls m (Qb ls m.inst) (Qe (Qb ls m.inst) m):=by
 have hok:=(VQ ls).1 h1;have hmk:=(Za1 m).1 h2;have hol:(Qb ls m.inst).length<=1000:=Nat.le_trans (Yp ls m.inst) hok.len;have hpk:=ZbC (L:=L) (Xr hok m.inst) hmk hol h.L1 (fun y hy=>h.hq y (List.mem_filter.1 hy).1) (fun y hy=>h.hc y (List.mem_filter.1 hy).1) h.hr h.hp;have hL2:=h.L2;have lm:=fun k=>Qd (hpk.m k)
 have lf:=fun k=>Qd (hpk.f k)
 have lv:=fun k=>Qd (hpk.mv k)
 have lr:=fun k=>Qd (hpk.rest k)
 have hca:=ZbE hmk.cause;have hcn:=fun k=>JM (Qe (Qb ls m.inst) m).n k
 refine⟨hok.len,Xn _ m,fun k W=> ?_,fun k W=> ?_,fun k W hk=> ?_,fun z l W hz=> ?_,fun y k W hy=> ?_,hol⟩
 ·have:=Zau (Qa ((Qe (Qb ls m.inst) m).m.getD k 0)) (Qa ((Qe (Qb ls m.inst) m).f.getD k 0)) W (by have:=lm k;omega) (by have:=lf k;omega)
  rw[Qc,Qc] at this;exact this
 ·have:=VH (Qa ((Qe (Qb ls m.inst) m).rest k)) (Qa ((Qe (Qb ls m.inst) m).mv k)) W (by have:=lr k;omega) (by have:=lv k;omega)
  rw[Qc,Qc] at this;exact this
 ·have:=ZhG m.cause (QD (Qe (Qb ls m.inst) m).n k+1) W (by omega) (by have:=hcn k;omega) (by omega)
  exact this
 ·have hzl:z.c.length<=4*L+41:=by
   have hm:z∈Yl m (Qe (Qb ls m.inst) m) (Qb ls m.inst) (Qb ls m.inst).length:=by rw[hz];simp
   unfold Yl at hm;obtain⟨i,_,hi⟩:=List.mem_filterMap.1 hm
   split at hi
   ·split at hi
    ·cases hi
    ·injection hi with hi;rw[<-hi];exact lv i
   ·cases hi
  have:=VH z.c (Qa ((Qe (Qb ls m.inst) m).rest (Qb ls m.inst).length)) W (by omega) (by have:=lr (Qb ls m.inst).length;omega)
  rw[Qc] at this;exact this
 ·have:=Zau y.c (Qa ((Qe (Qb ls m.inst) m).m.getD k 0)) W (by have:=h.hc y hy;omega) (by have:=lm k;omega)
  rw[Qc] at this;exact this
theorem ZjA(A:Option Addr)(n c:Nat)(ls:List Lot)(m:Mp)(w:World)(L:Nat)(hp:Env w)(hs:QU w w.1.size A n ls)(hcap:n<=c)(hz:SzR ls m n L):
 Calls Tryz.prog 9 #[.slice A n c,MpV m] w (JV (VO ls m) w):=by
 have Hm:=jq (show ∀e w',JV (VO ls m) w e w'=∃A c Ag cg As cs,e=.returned (.tuple #[.agg #[.slice A (VO ls m).1.lots.length c,.slice Ag (VO ls m).1.gains.length cg,.slice As (VO ls m).1.steps.length cs,.slice none 0 0],.int .i64 (VO ls m).2])/\Own L7 7 54 w' w.1.size (.slice A (VO ls m).1.lots.length c) (VO ls m).1.lots/\Own G10 10 57 w' w.1.size (.slice Ag (VO ls m).1.gains.length cg) (VO ls m).1.gains/\Own S6 6 80 w' w.1.size (.slice As (VO ls m).1.steps.length cs) (VO ls m).1.steps/\Below w.1.size w w' from fun _ _=>rfl);generalize JV (VO ls m) w=post at*;have Hj:=jq (Zk6 (ls:=ls) (m:=m));have Hb:=jq (ZhJ (ls:=ls) (m:=m));have Ha:=jq (Zjq (ls:=ls) (m:=m));generalize VO ls m=res at*;have Hc:=jq (fun W (hb:Below w.1.size w W)=>ZgU A n c ls m W (hp.here hb) (hs.here hb) hz.hl (by have:=hz.hn;omega) hcap hz.hm (hz.hr.more (by have:=hz.L2;omega)) (hz.hs.more (by have:=hz.L2;omega)) (hz.hp.more (by have:=hz.L2;omega)));have H:=jq (show Kp w [(w.1.size+1,#[.slice none 0 0,.slice none 0 0,.slice none 0 0,.slice none 0 0],35),(w.1.size,#[.string ⟨m.cause.toArray⟩,.int .i64 m.day,.string ⟨m.inst.toArray⟩,.string ⟨m.other.toArray⟩,.string ⟨m.ratio.n.toArray⟩,.string ⟨m.ratio.d.toArray⟩,.string ⟨m.share.n.toArray⟩,.string ⟨m.share.d.toArray⟩,.string ⟨m.price.n.toArray⟩,.string ⟨m.price.d.toArray⟩,.bool m.keep],28)] ((w.alloc (.cells #[.string ⟨m.cause.toArray⟩,.int .i64 m.day,.string ⟨m.inst.toArray⟩,.string ⟨m.other.toArray⟩,.string ⟨m.ratio.n.toArray⟩,.string ⟨m.ratio.d.toArray⟩,.string ⟨m.share.n.toArray⟩,.string ⟨m.share.d.toArray⟩,.string ⟨m.price.n.toArray⟩,.string ⟨m.price.d.toArray⟩,.bool m.keep] 28)).alloc (.cells #[.slice none 0 0,.slice none 0 0,.slice none 0 0,.slice none 0 0] 35)) from((Kp.start hp).new w.1.size rfl _ _).new _ (by simp) _ _);obtain⟨x0,x1,x2,x3,x4,x5,x6,x7,x8,x9,x10⟩:=z11 H.out (i:=1) rfl
 by_cases hv:Xl ls=0/\JE m=0
 ·have Hg:=jq (hz.mapC hv.1 hv.2);have hlen:n<=1000:=by have:=Hg.out.ls1000;have:=hs.1;omega
  have He:=jq (fun W (hb:Below w.1.size w W)=>Zef A n c ls m W (hp.here hb) (hs.here hb) hlen (hz.calls hv.1 hv.2));have Kk:=jq (fun id W (hb:Below w.1.size w W)=>Zbd A n c ls id W (hs.here hb) (by omega));have Hp:=jq hs;have Hq:=jq (fun h=>ZkY ((VQ ls).1 hv.1) ((Za1 m).1 hv.2) h);replace Hb:=jq (fun z=>Hb.out hv.1 hv.2 (z:=z));replace Ha:=jq (Ha.out hv.1 hv.2);rw[hv.1,hv.2] at Hc;simp only[decide_true,Bool.and_true] at Hc;have Hx:=jq (fun vo vn vm vf vp=>ZhS vo vn vm vf vp (Qe (Qb ls m.inst) m))
  have Kc:=jq (show((Qe (Qb ls m.inst) m).part=0/\Qf (Qe (Qb ls m.inst) m).part=⟨[],[]⟩)\/((Qe (Qb ls m.inst) m).part≠0/\((Qf (Qe (Qb ls m.inst) m).part).n==[])=false) by
   by_cases h:(Qe (Qb ls m.inst) m).part=0
   ·exact .inl ⟨h,by rw[h];exact Vr⟩
   ·exact .inr ⟨h,ZdY h⟩)
  have Hf:=jq hlen;clear hs hcap hz hp hv hlen Hj;unfold Zfv at He;unfold MpV at Hc He ⊢;rw[Vh] at Hc He ⊢;simp only[Hx.out] at He;clear Hx;generalize hxx:Qe (Qb ls m.inst) m=x at*;generalize hoo:Qb ls m.inst=old at*;have Kl:=jq hxx;have Kd:=jq hoo;clear hxx hoo;obtain⟨N,hN⟩:∃N,N=old.length:=⟨_,rfl⟩
  simp only[<-hN] at He;have Hh:=jq hN;clear hN;generalize Qa x.parts=tp at*;generalize hfp:Qf x.part=fp at*;generalize Qa x.moved=tm at*;generalize Qa x.taken=tt at*;generalize Qa x.cash=tca at*;clear hfp;have EM0:=jq (show(#[.string ⟨m.cause.toArray⟩,.int .i64 m.day,.string ⟨m.inst.toArray⟩,.string ⟨m.other.toArray⟩,.string ⟨m.ratio.n.toArray⟩,.string ⟨m.ratio.d.toArray⟩,.string ⟨m.share.n.toArray⟩,.string ⟨m.share.d.toArray⟩,.string ⟨m.price.n.toArray⟩,.string ⟨m.price.d.toArray⟩,.bool m.keep]:Array Value)[0]?=some (.string ⟨m.cause.toArray⟩) from rfl);have EM1:=jq (show(#[.string ⟨m.cause.toArray⟩,.int .i64 m.day,.string ⟨m.inst.toArray⟩,.string ⟨m.other.toArray⟩,.string ⟨m.ratio.n.toArray⟩,.string ⟨m.ratio.d.toArray⟩,.string ⟨m.share.n.toArray⟩,.string ⟨m.share.d.toArray⟩,.string ⟨m.price.n.toArray⟩,.string ⟨m.price.d.toArray⟩,.bool m.keep]:Array Value)[1]?=some (.int .i64 m.day) from rfl);have EM2:=jq (show(#[.string ⟨m.cause.toArray⟩,.int .i64 m.day,.string ⟨m.inst.toArray⟩,.string ⟨m.other.toArray⟩,.string ⟨m.ratio.n.toArray⟩,.string ⟨m.ratio.d.toArray⟩,.string ⟨m.share.n.toArray⟩,.string ⟨m.share.d.toArray⟩,.string ⟨m.price.n.toArray⟩,.string ⟨m.price.d.toArray⟩,.bool m.keep]:Array Value)[2]?=some (.string ⟨m.inst.toArray⟩) from rfl);have EM3:=jq (show(#[.string ⟨m.cause.toArray⟩,.int .i64 m.day,.string ⟨m.inst.toArray⟩,.string ⟨m.other.toArray⟩,.string ⟨m.ratio.n.toArray⟩,.string ⟨m.ratio.d.toArray⟩,.string ⟨m.share.n.toArray⟩,.string ⟨m.share.d.toArray⟩,.string ⟨m.price.n.toArray⟩,.string ⟨m.price.d.toArray⟩,.bool m.keep]:Array Value)[3]?=some (.string ⟨m.other.toArray⟩) from rfl);have EM10:=jq (show(#[.string ⟨m.cause.toArray⟩,.int .i64 m.day,.string ⟨m.inst.toArray⟩,.string ⟨m.other.toArray⟩,.string ⟨m.ratio.n.toArray⟩,.string ⟨m.ratio.d.toArray⟩,.string ⟨m.share.n.toArray⟩,.string ⟨m.share.d.toArray⟩,.string ⟨m.price.n.toArray⟩,.string ⟨m.price.d.toArray⟩,.bool m.keep]:Array Value)[10]?=some (.bool m.keep) from rfl);go_enter Tryz.func9,Tryz.ntmps9
  go_wp2_with fail
  generalize (w.alloc (.cells #[.string ⟨m.cause.toArray⟩,.int .i64 m.day,.string ⟨m.inst.toArray⟩,.string ⟨m.other.toArray⟩,.string ⟨m.ratio.n.toArray⟩,.string ⟨m.ratio.d.toArray⟩,.string ⟨m.share.n.toArray⟩,.string ⟨m.share.d.toArray⟩,.string ⟨m.price.n.toArray⟩,.string ⟨m.price.d.toArray⟩,.bool m.keep] 28)).alloc (.cells #[.slice none 0 0,.slice none 0 0,.slice none 0 0,.slice none 0 0] 35)=W0 at*;refine(Hc.out _ H.out.bl).mono ?_;rintro e w1 ⟨rfl,hb⟩;replace H:=jq (H.out.here hb);clear hb x0 x1 x2 x3 x4 x5 x6 x7 x8 x9 x10 Hc;obtain⟨x0,x1,x2,x3,x4,x5,x6,x7,x8,x9,x10⟩:=z11 H.out (i:=1) rfl
  go_wp2_with fail
  refine(He.out _ H.out.bl).mono ?_;rintro e w2 ⟨Ao,co,An,cn,Am,cm,Af,cf,Ap,cp,rfl,h1,h2,h3,h4,h5,hb⟩;clear x0 x1 x2 x3 x4 x5 x6 x7 x8 x9 x10 He;replace H:=jq (H.out.here hb);generalize (#[.string ⟨m.cause.toArray⟩,.int .i64 m.day,.string ⟨m.inst.toArray⟩,.string ⟨m.other.toArray⟩,.string ⟨m.ratio.n.toArray⟩,.string ⟨m.ratio.d.toArray⟩,.string ⟨m.share.n.toArray⟩,.string ⟨m.share.d.toArray⟩,.string ⟨m.price.n.toArray⟩,.string ⟨m.price.d.toArray⟩,.bool m.keep]:Array Value)=mb at*;have HK:=jq (show Kp w [(w2.1.size+1,#[.slice none 0 0,.slice none 0 0,.slice none 0 0,.slice none 0 0],35),(w2.1.size,#[.slice Ao N co,.slice An N cn,.slice Am N cm,.slice Af N cf,.slice Ap N cp,.string ⟨tp.toArray⟩,.string ⟨fp.n.toArray⟩,.string ⟨fp.d.toArray⟩,.string ⟨tm.toArray⟩,.string ⟨tt.toArray⟩,.string ⟨tca.toArray⟩],73),(w.1.size+1,#[.slice none 0 0,.slice none 0 0,.slice none 0 0,.slice none 0 0],35),(w.1.size,mb,28)] ((w2.alloc (.cells #[.slice Ao N co,.slice An N cn,.slice Am N cm,.slice Af N cf,.slice Ap N cp,.string ⟨tp.toArray⟩,.string ⟨fp.n.toArray⟩,.string ⟨fp.d.toArray⟩,.string ⟨tm.toArray⟩,.string ⟨tt.toArray⟩,.string ⟨tca.toArray⟩] 73)).alloc (.cells #[.slice none 0 0,.slice none 0 0,.slice none 0 0,.slice none 0 0] 35)) from(H.out.new w2.1.size rfl _ _).new _ (by simp) _ _);have HM:=jq (show Mr w2.1.size N Ao An Am Af Ap old x ((w2.alloc (.cells #[.slice Ao N co,.slice An N cn,.slice Am N cm,.slice Af N cf,.slice Ap N cp,.string ⟨tp.toArray⟩,.string ⟨fp.n.toArray⟩,.string ⟨fp.d.toArray⟩,.string ⟨tm.toArray⟩,.string ⟨tt.toArray⟩,.string ⟨tca.toArray⟩] 73)).alloc (.cells #[.slice none 0 0,.slice none 0 0,.slice none 0 0,.slice none 0 0] 35)) from Mr.step ⟨Nat.le_refl _,h1,h2,h3,h4,h5⟩ (((Below.refl w2.1.size w2).alloc (Nat.le_refl _) _).alloc (by simp) _));have Hr:=jq (show((w2.alloc (.cells #[.slice Ao N co,.slice An N cn,.slice Am N cm,.slice Af N cf,.slice Ap N cp,.string ⟨tp.toArray⟩,.string ⟨fp.n.toArray⟩,.string ⟨fp.d.toArray⟩,.string ⟨tm.toArray⟩,.string ⟨tt.toArray⟩,.string ⟨tca.toArray⟩] 73)).alloc (.cells #[.slice none 0 0,.slice none 0 0,.slice none 0 0,.slice none 0 0] 35)).heap.size=w2.1.size+2 by simp);clear h1 h2 h3 h4 h5 hb H;have EP0:=jq (show(#[.slice Ao N co,.slice An N cn,.slice Am N cm,.slice Af N cf,.slice Ap N cp,.string ⟨tp.toArray⟩,.string ⟨fp.n.toArray⟩,.string ⟨fp.d.toArray⟩,.string ⟨tm.toArray⟩,.string ⟨tt.toArray⟩,.string ⟨tca.toArray⟩]:Array Value)[0]?=some (.slice Ao N co) from rfl);have EP1:=jq (show(#[.slice Ao N co,.slice An N cn,.slice Am N cm,.slice Af N cf,.slice Ap N cp,.string ⟨tp.toArray⟩,.string ⟨fp.n.toArray⟩,.string ⟨fp.d.toArray⟩,.string ⟨tm.toArray⟩,.string ⟨tt.toArray⟩,.string ⟨tca.toArray⟩]:Array Value)[1]?=some (.slice An N cn) from rfl);have EP2:=jq (show(#[.slice Ao N co,.slice An N cn,.slice Am N cm,.slice Af N cf,.slice Ap N cp,.string ⟨tp.toArray⟩,.string ⟨fp.n.toArray⟩,.string ⟨fp.d.toArray⟩,.string ⟨tm.toArray⟩,.string ⟨tt.toArray⟩,.string ⟨tca.toArray⟩]:Array Value)[2]?=some (.slice Am N cm) from rfl);have EP3:=jq (show(#[.slice Ao N co,.slice An N cn,.slice Am N cm,.slice Af N cf,.slice Ap N cp,.string ⟨tp.toArray⟩,.string ⟨fp.n.toArray⟩,.string ⟨fp.d.toArray⟩,.string ⟨tm.toArray⟩,.string ⟨tt.toArray⟩,.string ⟨tca.toArray⟩]:Array Value)[3]?=some (.slice Af N cf) from rfl);have EP4:=jq (show(#[.slice Ao N co,.slice An N cn,.slice Am N cm,.slice Af N cf,.slice Ap N cp,.string ⟨tp.toArray⟩,.string ⟨fp.n.toArray⟩,.string ⟨fp.d.toArray⟩,.string ⟨tm.toArray⟩,.string ⟨tt.toArray⟩,.string ⟨tca.toArray⟩]:Array Value)[4]?=some (.slice Ap N cp) from rfl);have EP6:=jq (show(#[.slice Ao N co,.slice An N cn,.slice Am N cm,.slice Af N cf,.slice Ap N cp,.string ⟨tp.toArray⟩,.string ⟨fp.n.toArray⟩,.string ⟨fp.d.toArray⟩,.string ⟨tm.toArray⟩,.string ⟨tt.toArray⟩,.string ⟨tca.toArray⟩]:Array Value)[6]?=some (.string ⟨fp.n.toArray⟩) from rfl);have EP7:=jq (show(#[.slice Ao N co,.slice An N cn,.slice Am N cm,.slice Af N cf,.slice Ap N cp,.string ⟨tp.toArray⟩,.string ⟨fp.n.toArray⟩,.string ⟨fp.d.toArray⟩,.string ⟨tm.toArray⟩,.string ⟨tt.toArray⟩,.string ⟨tca.toArray⟩]:Array Value)[7]?=some (.string ⟨fp.d.toArray⟩) from rfl);go_upto_region 5 with (fail)
  generalize (w2.alloc (.cells #[.slice Ao N co,.slice An N cn,.slice Am N cm,.slice Af N cf,.slice Ap N cp,.string ⟨tp.toArray⟩,.string ⟨fp.n.toArray⟩,.string ⟨fp.d.toArray⟩,.string ⟨tm.toArray⟩,.string ⟨tt.toArray⟩,.string ⟨tca.toArray⟩] 73)).alloc (.cells #[.slice none 0 0,.slice none 0 0,.slice none 0 0,.slice none 0 0] 35)=W3 at*;generalize (#[.slice Ao N co,.slice An N cn,.slice Am N cm,.slice Af N cf,.slice Ap N cp,.string ⟨tp.toArray⟩,.string ⟨fp.n.toArray⟩,.string ⟨fp.d.toArray⟩,.string ⟨tm.toArray⟩,.string ⟨tt.toArray⟩,.string ⟨tca.toArray⟩]:Array Value)=pb at*;have c0:=HK.out.c 1 0 rfl EP0.out;go_wp2_with fail
  have Ke:=jq (fun V (h:Below W3.1.size W3 V)=>HM.out.step (h.mono (by have:=Hr.out;omega)));have hN1:N<=1000:=by have:=Hg.out.old1000;have:=Hh.out;omega
  have HQ:=jq (show MQ w w2 W3 ls old m x N Ao An Am Af Ap co cn cm cf cp fp mb pb from⟨HK.out,HM.out,Hr.out,Hg.out,Hh.out,EM0.out,EM1.out,EM2.out,EM3.out,EM10.out,EP0.out,EP1.out,EP2.out,EP3.out,EP4.out,EP6.out,EP7.out⟩);clear HM c0;refine wp_mono (ZnN w w2 W3 ls old m x N Ao An Am Af Ap co cn cm cf cp fp mb pb A n c HQ.out _ ⟨rfl,rfl,rfl,rfl,rfl,rfl⟩ rfl rfl rfl) ?_;rintro e a1 wr ⟨t1,rfl,hf1,A1,c1,rfl,h8,h9,HO,HB⟩;have hk:=hN1;have Hy:=jq (show(Yl m x old N).length=QD x.n N from ZbO m Hg.out.lens.1 N (by have:=Hh.out;omega));have Kf:=jq (JM x.n N);have Hk:=jq (show Zgz (x.rest N) (Yl m x old N)=QZ m x old by rw[Hh.out];exact ZdF m Hg.out.lens.1);have Hs:=jq (fun z l W h=>Hg.out.fst z l W h);rw[<-Hh.out] at Hb Ha Hs;generalize Yl m x old N=xs at*;generalize hrst:Qa (x.rest N)=trst at*;obtain⟨W4,rfl⟩:∃W,W=wr:=⟨_,rfl⟩
  have Hn:=jq HB.out;have Ht:=jq HO.out;have hxl:xs.length<=1000:=by have:=Hy.out;have:=Kf.out;omega
  clear HB HO hk;rw[VJ t1 hf1.len];unfold ZcO;rw[hf1.s0,hf1.s3,hf1.s4,hf1.s6,hf1.s7,h8,h9];clear hf1 h8 h9;generalize Jh t1.toList=frt1;go_wp2_with fail
  refine wp_mono (ZnO w w2 W3 ls old m x N Ao An Am Af Ap co cn cm cf cp fp mb pb A n c HQ.out Hp.out Hf.out xs A1 c1 W4 Ht Hn hxl (.string ⟨trst.toArray⟩) _ ⟨rfl,rfl,rfl,rfl,rfl,rfl⟩ rfl rfl rfl) ?_;rintro e a2 wr ⟨t2,rfl,hf2,⟨rfl,h8,h9,Hz,HZ⟩|⟨rfl,h5,⟨z,hz,hin⟩,HE⟩⟩
  rotate_left
  ·have HR:=jq (Hb.out z hz hin);have r0:=HE.out.c 2 0 rfl rfl;have r1:=HE.out.c 2 1 rfl rfl;have r2:=HE.out.c 2 2 rfl rfl;have r3:=HE.out.c 2 3 rfl rfl;rw[VJ t2 hf2.len];unfold ZcO;rw[hf2.s0,hf2.s3,hf2.s4,hf2.s6,hf2.s7,h5];clear hf2 h5;generalize Jh t2.toList=frt2;go_wp2_with fail
   refine bodyPost_ret (v:=.tuple #[.agg #[.slice none 0 0,.slice none 0 0,.slice none 0 0,.slice none 0 0],.int .i64 5]) (by simp[results,Tryz.results9,go_sem,r0,r1,r2,r3]) rfl ?_;rw[Hm.out,HR.out];exact⟨none,0,none,0,none,0,rfl,Own.nil,Own.nil,Own.nil,HE.out.bl⟩
  replace Ha:=jq (Ha.out Hz.out);clear Hb Hz;obtain⟨W5,rfl⟩:∃W,W=wr:=⟨_,rfl⟩
  have Ho:=jq (show Below W3.1.size W3 W5 from Hn.out.trans (HZ.out.mono Hn.out.size));have Hl:=jq (Ht.out.below HZ.out);clear Ht Hn HZ;obtain⟨made,hmd⟩:∃l,l=QZ m x old:=⟨_,rfl⟩
  rw[<-hmd] at Hk Ha;have Kg:=jq hmd;clear hmd;have Hu:=jq (show made.length=xs.length by rw[<-Hk.out,ZgA]);rw[VJ t2 hf2.len];unfold ZcO;rw[hf2.s0,hf2.s3,hf2.s4,hf2.s6,hf2.s7,h8,h9];clear hf2 h8 h9;generalize Jh t2.toList=frt2;go_upto_if 114 with (fail)
  go_cut [] (fun wc=>Hid (Own L7 7 54 wc W3.1.size (.slice A1 xs.length c1) made)/\Hid (Below W3.1.size W3 wc))
  case first=>
   cases xs with
   |nil=>
    have HE:=jq (show made=[] from Hk.out.symm);go_wp2_with fail
    go_meet
    exact⟨(show Own _ _ _ _ _ _ _ by rw[HE.out];exact Hl.out),Ho.out⟩
   |cons z l=>
    obtain⟨_,h2,_,h4⟩:=Hl.out.facts
    rcases h4 with ⟨_,_,h⟩|⟨g,rfl,hg1,hg2⟩
    ·cases h
    have i0:(0:Int)<(l.length:Int)+1:=by omega
    have c5:W5.cell? ⟨g,5,none⟩=some (.string ⟨z.c.toArray⟩):=by
     obtain⟨b,off,y,e,_,hy,_,_,_,_,_,d5,_⟩:=(Hl.out.sl Ql).lot7 (i:=0) (by simp)
     injection e with e;injection e with e1 e2;subst e1;subst e2
     injection hy with hy;subst hy;simpa using d5
    have HA:=jq (Hs.out z l W5 rfl);unfold Qh at HA
    try unfold S at HA
    have Hv:=jq (show made={z with c:=Qa (val z.c+x.rest N)}::l from Hk.out.symm);generalize Qa (val z.c+x.rest N)=tz at*;clear h2;go_wp2_with fail
    any_goals (rename_i h _;exact absurd (Nat.succ_pos _) h)
    refine HA.out.mono ?_;rintro e w6 ⟨rfl,hb6⟩;have Hi:=jq (Hl.out.below hb6);have Hd:=jq (Ho.out.trans (hb6.mono Ho.out.size));have d5:w6.cell? ⟨g,5,none⟩=some (.string ⟨z.c.toArray⟩):=(hb6.cell hg2).trans c5;have f5:=Hi.out.frozen 5;clear c5 hb6;go_wp2_with fail
    go_meet
    refine⟨(show Own _ _ _ _ _ _ _ from ?_),Hd.out.setCell hg1 _⟩;rw[Hv.out];exact Hi.out.set_ (i:=0) (j:=5) Ql rfl (by decide) rfl
  case rest=>
  obtain⟨Hi,Hd⟩:=hcut
  obtain⟨W6,rfl⟩:∃W,W=wc:=⟨_,rfl⟩
  have Ka:=jq (show Rs w w2.1.size W3.1.size W6.1.size N xs.length c1 A1 Ao An Am Af Ap old x made [(w2.1.size+1,#[.slice none 0 0,.slice none 0 0,.slice none 0 0,.slice none 0 0],35),(w2.1.size,pb,73),(w.1.size+1,#[.slice none 0 0,.slice none 0 0,.slice none 0 0,.slice none 0 0],35),(w.1.size,mb,28)] W6 from
   ⟨HK.out.here Hd.out,Ke.out _ Hd.out,Hi.out,Nat.le_refl _,Nat.le_trans HK.out.bl.size Hd.out.size,Nat.le_trans (by have:=Hr.out;omega) Hd.out.size,fun b hb=>((HK.out.here Hd.out).blk b hb).lt,fun g hg=>by
    obtain⟨A',c',_,_,_,_,h4⟩:=Hi.out.form
    exact(h4 g hg).2.2⟩)
  clear Hi Hd Ho Hl Hk Hs
  have Kb:=jq (show N=ls.countP (fun z=>decide (z.inst=m.inst)) by
   rw[Hh.out,<-Kd.out];unfold Qb;rw[List.countP_eq_length_filter]
   congr 1
   exact List.filter_congr fun z _=>by rw[Bool.eq_iff_iff];simp)
  have Kh:=jq Hp.out.1;go_wp2_with fail
  refine wp_mono (ZnP w w2 W3 ls old m x N Ao An Am Af Ap co cn cm cf cp fp mb pb A n c HQ.out Hp.out Hf.out Kb xs made A1 c1 W6 Ka (.slice A1 xs.length c1) _ ⟨rfl,rfl,rfl,rfl,rfl,rfl⟩ rfl rfl rfl) ?_;rintro e a3 W7 ⟨t3,rfl,hf3,A2,c2,rfl,h8,HR,HL⟩;have Ki:=jq (show(Qn m x.m 0 ls).length<=1000 from Nat.le_trans (Jz m x.m 0 ls) (by rw[<-Kh.out];exact Hf.out));generalize Qn m x.m 0 ls=kp at*;clear Ka Kb;have hke:=Ki.out;have hml:=Hu.out;have c0:=HR.out.k.c 0 0 rfl rfl;rw[VJ t3 hf3.len];unfold ZcO;rw[hf3.s0,hf3.s3,hf3.s4,hf3.s6,hf3.s7,h8];clear hf3 h8;generalize Jh t3.toList=frt3;have hwr:IntKind.i64.wrap ((kp.length:Int)+(xs.length:Int))=(kp.length:Int)+(xs.length:Int):=IntWalk.i64_in _ (by omega)
  by_cases hfull:1000<kp.length+made.length
  ·have Hw:=jq (Ha.out.trans (if_pos hfull));have i1:(1000:Int)<(kp.length:Int)+(xs.length:Int):=by omega
   clear hfull hml;have b0:=HR.out.k.c 2 0 rfl rfl;have b1:=HR.out.k.c 2 1 rfl rfl;have b2:=HR.out.k.c 2 2 rfl rfl;have b3:=HR.out.k.c 2 3 rfl rfl;have f0:=HR.out.k.f 2 0 rfl;have f1:=HR.out.k.f 2 1 rfl;have f2:=HR.out.k.f 2 2 rfl;have f3:=HR.out.k.f 2 3 rfl;go_wp2_with fail
   have HE:=jq ((((HR.out.k.set 2 0 rfl (.slice none 0 0)).set 2 1 rfl (.slice none 0 0)).set 2 2 rfl (.slice none 0 0)).set 2 3 rfl (.slice none 0 0));have r0:=HE.out.c 2 0 rfl rfl;have r1:=HE.out.c 2 1 rfl rfl;have r2:=HE.out.c 2 2 rfl rfl;have r3:=HE.out.c 2 3 rfl rfl;refine bodyPost_ret (v:=.tuple #[.agg #[.slice none 0 0,.slice none 0 0,.slice none 0 0,.slice none 0 0],.int .i64 4]) (by simp[results,Tryz.results9,go_sem,r0,r1,r2,r3]) rfl ?_;rw[Hm.out,Hw.out];exact⟨none,0,none,0,none,0,rfl,Own.nil,Own.nil,Own.nil,HE.out.bl⟩
  ·have Hw:=jq (Ha.out.trans (if_neg hfull));have i1:¬(1000:Int)<(kp.length:Int)+(xs.length:Int):=by omega
   have Kj:=jq (show kp.length+made.length<=1000 by omega);clear Ha hfull;go_wp2_with fail
   clear c0;refine wp_mono (ZnQ w w2 W3 ls old m x N Ao An Am Af Ap co cn cm cf cp fp mb pb A n c HQ.out xs made kp Hu Kj A1 A2 c1 c2 W6 W7 HR HL _ ⟨rfl,rfl,rfl,rfl,rfl,rfl⟩ rfl rfl) ?_;rintro e a4 W8 ⟨t4,rfl,hf4,A3,c3,rfl,h8,HR,HL⟩;generalize made.foldl XG kp=lots at*;rw[VJ t4 hf4.len];unfold ZcO;rw[hf4.s0,hf4.s3,hf4.s4,hf4.s6,hf4.s7,h8];clear hf4 h8;generalize Jh t4.toList=frt4;go_wp2_with fail
   refine wp_mono (ZnS w w2 W3 ls old m x N Ao An Am Af Ap co cn cm cf cp fp mb pb A n c HQ.out xs made lots Hu Kg Hy Kc Hq A1 A3 c1 c3 W6 W8 HR HL _ ⟨rfl,rfl,rfl,rfl,rfl,rfl⟩ rfl rfl rfl) ?_;rintro e a5 W9 ⟨t5,rfl,hf5,Ag,cg,As,cs,rfl,HI⟩;generalize Xq m x old=gl at*;generalize Yh m x old=sl at*;rw[VJ t5 hf5.len];unfold ZcO;rw[hf5.s0,hf5.s3,hf5.s4,hf5.s6,hf5.s7];clear hf5;generalize Jh t5.toList=frt5;have a0:=HI.out.r.k.c 0 0 rfl rfl;have a1:=HI.out.r.k.c 0 1 rfl rfl;have a2:=HI.out.r.k.c 0 2 rfl rfl;have a3:=HI.out.r.k.c 0 3 rfl rfl;have b0:=HI.out.r.k.c 2 0 rfl rfl;have b1:=HI.out.r.k.c 2 1 rfl rfl;have b2:=HI.out.r.k.c 2 2 rfl rfl;have b3:=HI.out.r.k.c 2 3 rfl rfl;have f0:=HI.out.r.k.f 2 0 rfl;have f1:=HI.out.r.k.f 2 1 rfl;have f2:=HI.out.r.k.f 2 2 rfl;have f3:=HI.out.r.k.f 2 3 rfl;have hq4:w.1.size+1≠w2.1.size+1:=HI.out.r.k.ne 2 0 rfl rfl (by decide);go_wp2_with fail
   have HE:=jq ((((HI.out.r.k.set 2 0 rfl (.slice A3 lots.length c3)).set 2 1 rfl (.slice Ag gl.length cg)).set 2 2 rfl (.slice As sl.length cs)).set 2 3 rfl (.slice none 0 0));have r0:=HE.out.c 2 0 rfl rfl;have r1:=HE.out.c 2 1 rfl rfl;have r2:=HE.out.c 2 2 rfl rfl;have r3:=HE.out.c 2 3 rfl rfl;refine bodyPost_ret (v:=.tuple #[.agg #[.slice A3 lots.length c3,.slice Ag gl.length cg,.slice As sl.length cs,.slice none 0 0],.int .i64 0]) (by simp[results,Tryz.results9,go_sem,r0,r1,r2,r3]) rfl ?_;rw[Hm.out,Hw.out];have hk:=HI.out.r.k.at_ 2 rfl;exact⟨A3,c3,Ag,cg,As,cs,rfl,Zm2 HI.out.l hk (by decide),Zm2 (HI.out.g.base_ HI.out.r.wb) hk (by decide),Zm2 (HI.out.t.base_ HI.out.r.wb) hk (by decide),HE.out.bl⟩
 ·have HR:=jq (Hj.out hv)
  have hf:(decide (Xl ls=0)&&decide (JE m=0))=false:=by
   rw[Bool.eq_false_iff];intro h;rw[Bool.and_eq_true,decide_eq_true_eq,decide_eq_true_eq] at h;exact hv h
  rw[hf] at Hc;clear hs hcap hz hp hv hf;unfold MpV at Hc ⊢;rw[Vh] at Hc ⊢;go_enter Tryz.func9,Tryz.ntmps9
  go_wp2_with fail
  generalize (w.alloc (.cells #[.string ⟨m.cause.toArray⟩,.int .i64 m.day,.string ⟨m.inst.toArray⟩,.string ⟨m.other.toArray⟩,.string ⟨m.ratio.n.toArray⟩,.string ⟨m.ratio.d.toArray⟩,.string ⟨m.share.n.toArray⟩,.string ⟨m.share.d.toArray⟩,.string ⟨m.price.n.toArray⟩,.string ⟨m.price.d.toArray⟩,.bool m.keep] 28)).alloc (.cells #[.slice none 0 0,.slice none 0 0,.slice none 0 0,.slice none 0 0] 35)=W0 at*;refine(Hc.out _ H.out.bl).mono ?_;rintro e w1 ⟨rfl,hb⟩;have H1:=jq (H.out.here hb);clear x0 x1 x2 x3 x4 x5 x6 x7 x8 x9 x10 hb;have c0:=H1.out.c 0 0 rfl rfl;have c1:=H1.out.c 0 1 rfl rfl;have c2:=H1.out.c 0 2 rfl rfl;have c3:=H1.out.c 0 3 rfl rfl;have f0:=H1.out.f 0 0 rfl;have f1:=H1.out.f 0 1 rfl;have f2:=H1.out.f 0 2 rfl;have f3:=H1.out.f 0 3 rfl;go_wp2_with fail
  have HE:=jq ((((H1.out.set 0 0 rfl (.slice none 0 0)).set 0 1 rfl (.slice none 0 0)).set 0 2 rfl (.slice none 0 0)).set 0 3 rfl (.slice none 0 0));have r0:=HE.out.c 0 0 rfl rfl;have r1:=HE.out.c 0 1 rfl rfl;have r2:=HE.out.c 0 2 rfl rfl;have r3:=HE.out.c 0 3 rfl rfl;refine bodyPost_ret (v:=.tuple #[.agg #[.slice none 0 0,.slice none 0 0,.slice none 0 0,.slice none 0 0],.int .i64 1]) (by simp[results,Tryz.results9,go_sem,r0,r1,r2,r3]) rfl ?_;rw[Hm.out,HR.out];exact⟨none,0,none,0,none,0,rfl,Own.nil,Own.nil,Own.nil,HE.out.bl⟩
end Go.Proofs.YtpnncoinlopndaaGreatDoor
