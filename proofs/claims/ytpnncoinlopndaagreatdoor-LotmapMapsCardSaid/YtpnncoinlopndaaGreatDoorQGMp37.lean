/- . -/
import Derived.Test.YtpnncoinlopndaaGreatDoorQGMp47
set_option maxRecDepth 100000
set_option maxHeartbeats 16000000
namespace Go.Proofs.YtpnncoinlopndaaGreatDoor
open Go.Lib renaming hid→jq
open Go.RowKit Go.Shelf
attribute [local go_sem ↓] Go.wp_at_zero Go.wp_at_succ
def czV(vo vn vm vf vp:Value)(x:Plan):Value:=.agg #[vo,vn,vm,vf,vp,S (Qa x.parts),S (Qf x.part).n,S (Qf x.part).d,S (Qa x.moved),S (Qa x.taken),S (Qa x.cash)]
def Zfv(old:List Lot)(x:Plan)(w:World)(e:Ending)(w':World):Prop:=
 ∃Ao co An cn Am cm Af cf Ap cp,e=.returned (czV (.slice Ao old.length co) (.slice An old.length cn) (.slice Am old.length cm) (.slice Af old.length cf) (.slice Ap old.length cp) x)/\
  QU w' w'.1.size Ao old.length old/\XA w' w'.1.size An old.length (x.n.map Qa)/\XA w' w'.1.size Am old.length (x.m.map Qa)/\XA w' w'.1.size Af old.length (x.f.map Qa)/\XA w' w'.1.size Ap old.length (x.p.map Qa)/\Below w.1.size w w'
theorem Own.sets11{α:Type}{enc:α->List Value}{k base:Nat}{e:TypeId}{v:Value}{xs:List α}{W:World}{p:Nat}{cs:Array Value}{T:TypeId}(h:Own enc k e W base v xs)(hB:BlkB W p cs T)(ht:e≠T)(d0 d1 d2 d3 d4 d5 d6 d7 d8 d9 d10:Value):Own enc k e (((((((((((W.setCell ⟨p,0,none⟩ d0).setCell ⟨p,1,none⟩ d1).setCell ⟨p,2,none⟩ d2).setCell ⟨p,3,none⟩ d3).setCell ⟨p,4,none⟩ d4).setCell ⟨p,5,none⟩ d5).setCell ⟨p,6,none⟩ d6).setCell ⟨p,7,none⟩ d7).setCell ⟨p,8,none⟩ d8).setCell ⟨p,9,none⟩ d9).setCell ⟨p,10,none⟩ d10) base v xs:=by
 have h0:=h.farB hB ht 0 d0;have b0:=hB.set 0 d0;have h1:=h0.farB b0 ht 1 d1;have b1:=b0.set 1 d1;have h2:=h1.farB b1 ht 2 d2;have b2:=b1.set 2 d2;have h3:=h2.farB b2 ht 3 d3;have b3:=b2.set 3 d3;have h4:=h3.farB b3 ht 4 d4;have b4:=b3.set 4 d4;have h5:=h4.farB b4 ht 5 d5;have b5:=b4.set 5 d5;have h6:=h5.farB b5 ht 6 d6;have b6:=b5.set 6 d6;have h7:=h6.farB b6 ht 7 d7;have b7:=b6.set 7 d7;have h8:=h7.farB b7 ht 8 d8;have b8:=b7.set 8 d8;have h9:=h8.farB b8 ht 9 d9;have b9:=b8.set 9 d9;have h10:=h9.farB b9 ht 10 d10;have b10:=b9.set 10 d10;exact h10
theorem Pr.sets11{w W:World}{Ao A1 A2:Option Addr}{N co c1 c2:Nat}{old:List Lot}{qs ks:List (List UInt8)}{bs:List (Nat×Array Value×TypeId)}{p i:Nat}{g0 g1 g2 g3 g4 g5 g6 g7 g8 g9 g10:Value}{T:TypeId}(h:Pr w Ao N co old A1 c1 qs A2 c2 ks bs W)(hb:bs[i]?=some (p,#[g0,g1,g2,g3,g4,g5,g6,g7,g8,g9,g10],T))(h1:54≠T)(h2:24≠T)(d0 d1 d2 d3 d4 d5 d6 d7 d8 d9 d10:Value):
 Pr w Ao N co old A1 c1 qs A2 c2 ks (bs.set i (p,#[d0,d1,d2,d3,d4,d5,d6,d7,d8,d9,d10],T)) (((((((((((W.setCell ⟨p,0,none⟩ d0).setCell ⟨p,1,none⟩ d1).setCell ⟨p,2,none⟩ d2).setCell ⟨p,3,none⟩ d3).setCell ⟨p,4,none⟩ d4).setCell ⟨p,5,none⟩ d5).setCell ⟨p,6,none⟩ d6).setCell ⟨p,7,none⟩ d7).setCell ⟨p,8,none⟩ d8).setCell ⟨p,9,none⟩ d9).setCell ⟨p,10,none⟩ d10):=
 ⟨ZeK h.k hb d0 d1 d2 d3 d4 d5 d6 d7 d8 d9 d10,h.o.sets11 (h.k.at_ i hb) h1 d0 d1 d2 d3 d4 d5 d6 d7 d8 d9 d10,h.q.sets11 (h.k.at_ i hb) h2 d0 d1 d2 d3 d4 d5 d6 d7 d8 d9 d10,h.c.sets11 (h.k.at_ i hb) h2 d0 d1 d2 d3 d4 d5 d6 d7 d8 d9 d10⟩
theorem ZhS(vo vn vm vf vp:Value)(x:Plan):czV vo vn vm vf vp x=.agg #[vo,vn,vm,vf,vp,.string ⟨(Qa x.parts).toArray⟩,.string ⟨(Qf x.part).n.toArray⟩,.string ⟨(Qf x.part).d.toArray⟩,.string ⟨(Qa x.moved).toArray⟩,.string ⟨(Qa x.taken).toArray⟩,.string ⟨(Qa x.cash).toArray⟩]:=rfl
theorem Zmv(vo vn vm vf vp:Value):czV vo vn vm vf vp {exact:=0,parts:=0,part:=0,moved:=0,taken:=0,cash:=0,n:=[],m:=[],f:=[],p:=[]}=.agg #[vo,vn,vm,vf,vp,.string ⟨#[]⟩,.string ⟨#[]⟩,.string ⟨#[]⟩,.string ⟨#[]⟩,.string ⟨#[]⟩,.string ⟨#[]⟩]:=by
 rw[ZhS];simp only[Vr,Fr.zero,show Qa 0=[] from rfl]
theorem ZdY{q:Rat}(h:q≠0):((Qf q).n==[])=false:=by
 rw[Bool.eq_false_iff];intro e;have h1:Qa q.num=[]:=eq_of_beq e;exact h (Rat.num_eq_zero.1 (XN.1 h1))
theorem Zef(A:Option Addr)(n c:Nat)(ls:List Lot)(m:Mp)(w:World)(hp:Env w)(hs:QU w w.1.size A n ls)(hn:n<=1000)(hC:Qb ls m.inst≠[]->CzC (Qb ls m.inst) m (Qe (Qb ls m.inst) m)):
 Calls Tryz.prog 34 #[.slice A n c,MpV m] w (Zfv (Qb ls m.inst) (Qe (Qb ls m.inst) m) w):=by
 have Hg:=jq (show ∀e w',Zfv (Qb ls m.inst) (Qe (Qb ls m.inst) m) w e w'=∃Ao co An cn Am cm Af cf Ap cp,e=.returned (czV (.slice Ao (Qb ls m.inst).length co) (.slice An (Qb ls m.inst).length cn) (.slice Am (Qb ls m.inst).length cm) (.slice Af (Qb ls m.inst).length cf) (.slice Ap (Qb ls m.inst).length cp) (Qe (Qb ls m.inst) m))/\
  QU w' w'.1.size Ao (Qb ls m.inst).length (Qb ls m.inst)/\XA w' w'.1.size An (Qb ls m.inst).length ((Qe (Qb ls m.inst) m).n.map Qa)/\XA w' w'.1.size Am (Qb ls m.inst).length ((Qe (Qb ls m.inst) m).m.map Qa)/\XA w' w'.1.size Af (Qb ls m.inst).length ((Qe (Qb ls m.inst) m).f.map Qa)/\XA w' w'.1.size Ap (Qb ls m.inst).length ((Qe (Qb ls m.inst) m).p.map Qa)/\Below w.1.size w w' from fun _ _=>rfl)
 generalize Zfv (Qb ls m.inst) (Qe (Qb ls m.inst) m) w=post at*;have He:=jq (fun W (hb:Below w.1.size w W)=>Zlp A n c ls m.inst W (hs.here hb) (by omega));have hol:(Qb ls m.inst).length<=1000:=Nat.le_trans (List.length_filter_le _ _) (by rw[<-hs.1];exact hn);have Hj:=jq hC;have Hk:=jq (fun(h:Qb ls m.inst=[])=>(show Qe (Qb ls m.inst) m={exact:=0,parts:=0,part:=0,moved:=0,taken:=0,cash:=0,n:=[],m:=[],f:=[],p:=[]} by rw[h];exact Zlq m));have hlens:=Xn (Qb ls m.inst) m;have Hh:=jq (show(Qe (Qb ls m.inst) m).taken=if(Qe (Qb ls m.inst) m).part=0 then 0 else if(Qe (Qb ls m.inst) m).parts=0 then(Qe (Qb ls m.inst) m).moved else Vm (Qe (Qb ls m.inst) m).moved (Yr (Qe (Qb ls m.inst) m).exact) (Qe (Qb ls m.inst) m).exact.num from rfl);have Hi:=jq (fun W Ao co (hW:QU W W.1.size Ao (Qb ls m.inst).length (Qb ls m.inst))=>Zee Ao (Qb ls m.inst).length co (Qb ls m.inst) W hW hol);generalize Qe (Qb ls m.inst) m=x at*;generalize Qb ls m.inst=old at*;obtain⟨k,hk⟩:∃k,k=old.length:=⟨_,rfl⟩
 rw[<-hk] at Hg Hi hol hlens;have Hb:=jq hlens;have HK:=jq hk;have H0:=jq (show Kp w [(w.1.size+1,#[.slice none 0 0,.slice none 0 0,.slice none 0 0,.slice none 0 0,.slice none 0 0,.string ⟨#[]⟩,.string ⟨#[]⟩,.string ⟨#[]⟩,.string ⟨#[]⟩,.string ⟨#[]⟩,.string ⟨#[]⟩],73),(w.1.size,#[.string ⟨m.cause.toArray⟩,.int .i64 m.day,.string ⟨m.inst.toArray⟩,.string ⟨m.other.toArray⟩,.string ⟨m.ratio.n.toArray⟩,.string ⟨m.ratio.d.toArray⟩,.string ⟨m.share.n.toArray⟩,.string ⟨m.share.d.toArray⟩,.string ⟨m.price.n.toArray⟩,.string ⟨m.price.d.toArray⟩,.bool m.keep],28)] ((w.alloc (.cells #[.string ⟨m.cause.toArray⟩,.int .i64 m.day,.string ⟨m.inst.toArray⟩,.string ⟨m.other.toArray⟩,.string ⟨m.ratio.n.toArray⟩,.string ⟨m.ratio.d.toArray⟩,.string ⟨m.share.n.toArray⟩,.string ⟨m.share.d.toArray⟩,.string ⟨m.price.n.toArray⟩,.string ⟨m.price.d.toArray⟩,.bool m.keep] 28)).alloc (.cells #[.slice none 0 0,.slice none 0 0,.slice none 0 0,.slice none 0 0,.slice none 0 0,.string ⟨#[]⟩,.string ⟨#[]⟩,.string ⟨#[]⟩,.string ⟨#[]⟩,.string ⟨#[]⟩,.string ⟨#[]⟩] 73)) from((Kp.start hp).new w.1.size rfl _ _).new (w.1.size+1) (by simp) _ _);have a2:=H0.out.c 1 2 rfl rfl;clear hp hs hn hC hlens hk;unfold MpV;rw[Vh];unfold RetOwn at He;simp only[<-HK.out] at He;unfold S at He;go_enter Tryz.func34,Tryz.ntmps34
 go_wp2_with fail
 generalize ((w.alloc (.cells #[.string ⟨m.cause.toArray⟩,.int .i64 m.day,.string ⟨m.inst.toArray⟩,.string ⟨m.other.toArray⟩,.string ⟨m.ratio.n.toArray⟩,.string ⟨m.ratio.d.toArray⟩,.string ⟨m.share.n.toArray⟩,.string ⟨m.share.d.toArray⟩,.string ⟨m.price.n.toArray⟩,.string ⟨m.price.d.toArray⟩,.bool m.keep] 28)).alloc (.cells #[.slice none 0 0,.slice none 0 0,.slice none 0 0,.slice none 0 0,.slice none 0 0,.string ⟨#[]⟩,.string ⟨#[]⟩,.string ⟨#[]⟩,.string ⟨#[]⟩,.string ⟨#[]⟩,.string ⟨#[]⟩] 73))=W0 at*;refine(He.out _ H0.out.bl).mono ?_;rintro e w1 ⟨Ao,co,rfl,hO,hb⟩;have H1:=jq (show Kp w [(w1.1.size,#[.slice Ao k co,.slice none 0 0,.slice none 0 0,.slice none 0 0,.slice none 0 0,.string ⟨#[]⟩,.string ⟨#[]⟩,.string ⟨#[]⟩,.string ⟨#[]⟩,.string ⟨#[]⟩,.string ⟨#[]⟩],73),(w.1.size+1,#[.slice none 0 0,.slice none 0 0,.slice none 0 0,.slice none 0 0,.slice none 0 0,.string ⟨#[]⟩,.string ⟨#[]⟩,.string ⟨#[]⟩,.string ⟨#[]⟩,.string ⟨#[]⟩,.string ⟨#[]⟩],73),(w.1.size,#[.string ⟨m.cause.toArray⟩,.int .i64 m.day,.string ⟨m.inst.toArray⟩,.string ⟨m.other.toArray⟩,.string ⟨m.ratio.n.toArray⟩,.string ⟨m.ratio.d.toArray⟩,.string ⟨m.share.n.toArray⟩,.string ⟨m.share.d.toArray⟩,.string ⟨m.price.n.toArray⟩,.string ⟨m.price.d.toArray⟩,.bool m.keep],28)] (w1.alloc (.cells #[.slice Ao k co,.slice none 0 0,.slice none 0 0,.slice none 0 0,.slice none 0 0,.string ⟨#[]⟩,.string ⟨#[]⟩,.string ⟨#[]⟩,.string ⟨#[]⟩,.string ⟨#[]⟩,.string ⟨#[]⟩] 73)) from(H0.out.here hb).new w1.1.size rfl _ _);have Hl:=jq ((hO.base_ H0.out.bl.size).alloc (.cells #[.slice Ao k co,.slice none 0 0,.slice none 0 0,.slice none 0 0,.slice none 0 0,.string ⟨#[]⟩,.string ⟨#[]⟩,.string ⟨#[]⟩,.string ⟨#[]⟩,.string ⟨#[]⟩,.string ⟨#[]⟩] 73));clear hO hb H0 He a2;go_upto_region 2 with (fail)
 generalize w1.alloc _=W1 at*;generalize w1.1.size=q at*
 by_cases h0:old=[]
 ·have hk0:k=0:=by rw[HK.out,h0];rfl
  have hkz:((k:Int)==0)=true:=by simp[hk0]
  have Hd:=jq hk0;have hx:=Hk.out h0;have Hp:=jq (fun vo vn vm vf vp=>(congrArg (czV vo vn vm vf vp) hx).trans (Zmv vo vn vm vf vp));have Hm:=jq (show x.n=[]/\x.m=[]/\x.f=[]/\x.p=[] by rw[hx];exact⟨rfl,rfl,rfl,rfl⟩);have Hn:=jq h0;clear hk0 hx h0;clear Hj Hk Hh Hi Hb;obtain⟨c0,c1,c2,c3,c4,c5,c6,c7,c8,c9,c10⟩:=z11 H1.out (i:=0) rfl
  obtain⟨d0,d1,d2,d3,d4,d5,d6,d7,d8,d9,d10⟩:=z11 H1.out (i:=1) rfl
  have f0:=H1.out.f 1 0 rfl;have f1:=H1.out.f 1 1 rfl;have f2:=H1.out.f 1 2 rfl;have f3:=H1.out.f 1 3 rfl;have f4:=H1.out.f 1 4 rfl;have f5:=H1.out.f 1 5 rfl;have f6:=H1.out.f 1 6 rfl;have f7:=H1.out.f 1 7 rfl;have f8:=H1.out.f 1 8 rfl;have f9:=H1.out.f 1 9 rfl;have f10:=H1.out.f 1 10 rfl;have HE:=jq (ZeK H1.out (i:=1) rfl (.slice Ao k co) (.slice none 0 0) (.slice none 0 0) (.slice none 0 0) (.slice none 0 0) (.string ⟨#[]⟩) (.string ⟨#[]⟩) (.string ⟨#[]⟩) (.string ⟨#[]⟩) (.string ⟨#[]⟩) (.string ⟨#[]⟩));go_wp2_with fail
  obtain⟨r0,r1,r2,r3,r4,r5,r6,r7,r8,r9,r10⟩:=z11 HE.out (i:=1) rfl
  refine bodyPost_ret (v:=.agg #[.slice Ao k co,.slice none 0 0,.slice none 0 0,.slice none 0 0,.slice none 0 0,.string ⟨#[]⟩,.string ⟨#[]⟩,.string ⟨#[]⟩,.string ⟨#[]⟩,.string ⟨#[]⟩,.string ⟨#[]⟩]) (by simp[results,Tryz.results34,go_sem,r0,r1,r2,r3,r4,r5,r6,r7,r8,r9,r10]) rfl ?_;rw[Hg.out];obtain⟨e1,e2,e3,e4⟩:=Hm.out
  refine⟨Ao,co,none,0,none,0,none,0,none,0,?_,?_,?_,?_,?_,?_,HE.out.bl⟩
  ·rw[Hp.out,Hd.out]
  ·rw[Hn.out,Hd.out];exact Sl.nil
  ·rw[e1,Hd.out];exact Sl.nil
  ·rw[e2,Hd.out];exact Sl.nil
  ·rw[e3,Hd.out];exact Sl.nil
  ·rw[e4,Hd.out];exact Sl.nil
 have hne:((k:Int)==0)=false:=by
  have:0<k:=by rw[HK.out];exact List.length_pos_iff.2 h0
  simp;omega
 have hk0:0<k:=by rw[HK.out];exact List.length_pos_iff.2 h0
 obtain⟨sumq,sumc,parts,of1,mul1,rnd1,mul2,rnd2,of2,mul3,prt,mul4,sub1,shr,sp1,sp2,sp3,sp4⟩:=Hj.out h0
 simp only[<-HK.out] at sumq sumc sp1 sp2 sp3 sp4;clear Hj Hk h0
 have HF:=jq (show(x.part=0/\Qf x.part=⟨[],[]⟩/\Qa x.taken=[])\/(x.part≠0/\x.parts=0/\((Qf x.part).n==[])=false/\Qa x.parts=[]/\Qa x.taken=Qa x.moved)\/(x.part≠0/\x.parts≠0/\((Qf x.part).n==[])=false/\(Qa x.parts==[])=false/\(Qa x.parts).isEmpty=false) by
  by_cases h1:x.part=0
  ·refine .inl ⟨h1,by rw[h1];exact Vr,?_⟩;rw[Hh.out,if_pos h1];rfl
  ·by_cases h2:x.parts=0
   ·refine .inr (.inl ⟨h1,h2,ZdY h1,by rw[h2];rfl,?_⟩);rw[Hh.out,if_neg h1,if_pos h2]
   ·have h3:(Qa x.parts==[])=false:=by
     rw[Bool.eq_false_iff];intro e;exact h2 (XN.1 (eq_of_beq e))
    refine .inr (.inr ⟨h1,h2,ZdY h1,h3,?_⟩)
    cases h:Qa x.parts with
    |nil=>rw[h] at h3;cases h3
    |cons _ _=>rfl)
 have Ho:=jq (fun vo vn vm vf vp=>ZhS vo vn vm vf vp x);clear Hh;generalize Qf (m.share.rat*(((old.map fun y=>val y.c).sum:Int):Rat))=fm1 at*;generalize Qf (x.part*m.price.rat)=fm2 at*;generalize Qf (((old.map fun y=>val y.c).sum:Int):Rat)=fc at*;generalize Qf (((old.map fun y=>val y.q).sum:Int):Rat)=fq at*;generalize Qf x.exact=fex at*;generalize hfp:Qf x.part=fp at*;generalize Qa (old.map fun y=>val y.q).sum=tq at*;generalize Qa (old.map fun y=>val y.c).sum=tc at*;generalize Qa (x.parts*x.exact.den)=tpd at*;generalize Qa (x.moved-x.taken)=trest at*;generalize Qa x.exact.num=tnum at*;generalize Qa (x.exact.den:Int)=tden at*;generalize Qa (Yr x.exact)=tfl at*;generalize htp:Qa x.parts=tp at*;generalize htm:Qa x.moved=tm at*;generalize htt:Qa x.taken=tt at*;generalize htca:Qa x.cash=tca at*;clear hfp htp htm htt htca;have SQ:=jq sumq;have SC:=jq sumc;have PA:=jq parts;have O1:=jq of1;have M1:=jq mul1;have R1:=jq rnd1;have M2:=jq mul2;have R2:=jq rnd2;have O2:=jq of2;have M3:=jq mul3;have PR:=jq prt;have M4:=jq mul4;have S1_:=jq sub1;have SH:=jq shr;have P1:=jq sp1;have P2:=jq sp2;have P3:=jq sp3;have P4:=jq sp4;clear sumq sumc parts of1 mul1 rnd1 mul2 rnd2 of2 mul3 prt mul4 sub1 shr sp1 sp2 sp3 sp4;unfold Qh at SQ SC M4 S1_;unfold Qg QC at O1 M1 M2 O2 M3;unfold QC at PA R1 R2;unfold QS QC at PR;unfold Xo at P1 P2 P3 P4
 try unfold S at SQ
 try unfold S at SC
 try unfold S at PA
 try unfold S at O1
 try unfold S at M1
 try unfold S at R1
 try unfold S at M2
 try unfold S at R2
 try unfold S at O2
 try unfold S at M3
 try unfold S at PR
 try unfold S at M4
 try unfold S at S1_
 try unfold S at SH
 try unfold S at P1
 try unfold S at P2
 try unfold S at P3
 try unfold S at P4
 have c0:=H1.out.c 0 0 rfl rfl;go_wp2_with fail
 refine(Hi.out _ _ _ (Hl.out.sl Ql)).mono ?_;rintro e w2 ⟨A1,c1,A2,c2,rfl,hq,hcs,hb2⟩;have HP:=jq (show Pr w Ao k co old A1 c1 (old.map (·.q)) A2 c2 (old.map (·.c)) [(q,#[.slice Ao k co,.slice none 0 0,.slice none 0 0,.slice none 0 0,.slice none 0 0,.string ⟨#[]⟩,.string ⟨#[]⟩,.string ⟨#[]⟩,.string ⟨#[]⟩,.string ⟨#[]⟩,.string ⟨#[]⟩],73),(w.1.size+1,#[.slice none 0 0,.slice none 0 0,.slice none 0 0,.slice none 0 0,.slice none 0 0,.string ⟨#[]⟩,.string ⟨#[]⟩,.string ⟨#[]⟩,.string ⟨#[]⟩,.string ⟨#[]⟩,.string ⟨#[]⟩],73),(w.1.size,#[.string ⟨m.cause.toArray⟩,.int .i64 m.day,.string ⟨m.inst.toArray⟩,.string ⟨m.other.toArray⟩,.string ⟨m.ratio.n.toArray⟩,.string ⟨m.ratio.d.toArray⟩,.string ⟨m.share.n.toArray⟩,.string ⟨m.share.d.toArray⟩,.string ⟨m.price.n.toArray⟩,.string ⟨m.price.d.toArray⟩,.bool m.keep],28)] w2 from⟨H1.out.here hb2,Hl.out.below hb2,hq.base_ H1.out.bl.size,hcs.base_ H1.out.bl.size⟩);clear hq hcs hb2 c0 H1 Hl Hi;go_wp2_with fail
 refine(SQ.out _ _ _ (HP.out.q.sl Xx)).mono ?_;rintro e w3 ⟨rfl,hb⟩;replace HP:=jq (HP.out.here hb);clear hb SQ;go_wp2_with fail
 refine(SC.out _ _ _ (HP.out.c.sl Xx)).mono ?_;rintro e w4 ⟨rfl,hb⟩;replace HP:=jq (HP.out.here hb);clear hb SC;have c4:=HP.out.k.c 2 4 rfl rfl;have c5:=HP.out.k.c 2 5 rfl rfl;go_wp2_with fail
 refine(PA.out _ HP.out.k.pw).mono ?_;rintro e w5 ⟨rfl,hb⟩;replace HP:=jq (HP.out.here hb);clear hb PA c4 c5;have d5:=HP.out.k.c 0 5 rfl rfl;have d6:=HP.out.k.c 0 6 rfl rfl;have d7:=HP.out.k.c 0 7 rfl rfl;have f5:=HP.out.k.f 0 5 rfl;have f6:=HP.out.k.f 0 6 rfl;have f7:=HP.out.k.f 0 7 rfl;have Hc:=jq (show Pr w Ao k co old A1 c1 (old.map (·.q)) A2 c2 (old.map (·.c)) [(q,#[.slice Ao k co,.slice none 0 0,.slice none 0 0,.slice none 0 0,.slice none 0 0,.string ⟨tp.toArray⟩,.string ⟨fp.n.toArray⟩,.string ⟨fp.d.toArray⟩,.string ⟨#[]⟩,.string ⟨#[]⟩,.string ⟨#[]⟩],73),(w.1.size+1,#[.slice none 0 0,.slice none 0 0,.slice none 0 0,.slice none 0 0,.slice none 0 0,.string ⟨#[]⟩,.string ⟨#[]⟩,.string ⟨#[]⟩,.string ⟨#[]⟩,.string ⟨#[]⟩,.string ⟨#[]⟩],73),(w.1.size,#[.string ⟨m.cause.toArray⟩,.int .i64 m.day,.string ⟨m.inst.toArray⟩,.string ⟨m.other.toArray⟩,.string ⟨m.ratio.n.toArray⟩,.string ⟨m.ratio.d.toArray⟩,.string ⟨m.share.n.toArray⟩,.string ⟨m.share.d.toArray⟩,.string ⟨m.price.n.toArray⟩,.string ⟨m.price.d.toArray⟩,.bool m.keep],28)] (((w5.setCell ⟨q,5,none⟩ (.string ⟨tp.toArray⟩)).setCell ⟨q,6,none⟩ (.string ⟨fp.n.toArray⟩)).setCell ⟨q,7,none⟩ (.string ⟨fp.d.toArray⟩)) from((HP.out.set 0 5 rfl (by decide) (by decide) _).set 0 6 rfl (by decide) (by decide) _).set 0 7 rfl (by decide) (by decide) _);go_upto_region 7 with (fail)
 clear d5 d6 d7 f5 f6 f7 HP;generalize (((w5.setCell ⟨q,5,none⟩ (.string ⟨tp.toArray⟩)).setCell ⟨q,6,none⟩ (.string ⟨fp.n.toArray⟩)).setCell ⟨q,7,none⟩ (.string ⟨fp.d.toArray⟩))=W6 at*
 go_cut [] (fun wc=>Hid (Pr w Ao k co old A1 c1 (old.map (·.q)) A2 c2 (old.map (·.c)) [(q,#[.slice Ao k co,.slice none 0 0,.slice none 0 0,.slice none 0 0,.slice none 0 0,.string ⟨tp.toArray⟩,.string ⟨fp.n.toArray⟩,.string ⟨fp.d.toArray⟩,.string ⟨tm.toArray⟩,.string ⟨#[]⟩,.string ⟨#[]⟩],73),(w.1.size+1,#[.slice none 0 0,.slice none 0 0,.slice none 0 0,.slice none 0 0,.slice none 0 0,.string ⟨#[]⟩,.string ⟨#[]⟩,.string ⟨#[]⟩,.string ⟨#[]⟩,.string ⟨#[]⟩,.string ⟨#[]⟩],73),(w.1.size,#[.string ⟨m.cause.toArray⟩,.int .i64 m.day,.string ⟨m.inst.toArray⟩,.string ⟨m.other.toArray⟩,.string ⟨m.ratio.n.toArray⟩,.string ⟨m.ratio.d.toArray⟩,.string ⟨m.share.n.toArray⟩,.string ⟨m.share.d.toArray⟩,.string ⟨m.price.n.toArray⟩,.string ⟨m.price.d.toArray⟩,.bool m.keep],28)] wc))
 case first=>
  have hS:=jq (fun V (h:Bz W6 V)=>(show V.cell? ⟨w.1.size,6,none⟩=some (.string ⟨m.share.n.toArray⟩)/\V.cell? ⟨w.1.size,7,none⟩=some (.string ⟨m.share.d.toArray⟩) from⟨(Hc.out.here h).k.c 2 6 rfl rfl,(Hc.out.here h).k.c 2 7 rfl rfl⟩));have hS2:=jq (fun V (h:Bz W6 V) u=>(show(V.setCell ⟨q,8,none⟩ u).cell? ⟨w.1.size,6,none⟩=some (.string ⟨m.share.n.toArray⟩)/\(V.setCell ⟨q,8,none⟩ u).cell? ⟨w.1.size,7,none⟩=some (.string ⟨m.share.d.toArray⟩) from⟨((Hc.out.here h).k.set 0 8 rfl u).c 2 6 rfl rfl,((Hc.out.here h).k.set 0 8 rfl u).c 2 7 rfl rfl⟩))
  go_region_held3 (fun w'=>w'.cell? ⟨w.1.size,6,none⟩=some (.string ⟨m.share.n.toArray⟩)/\w'.cell? ⟨w.1.size,7,none⟩=some (.string ⟨m.share.d.toArray⟩))
   (first|(exact hS2.out _ (by assumption) _)|(exact hS.out _ (by repeat' (first|assumption|exact Bz.refl _|refine Bz.drew ?_|refine Bz.alloc ?_ _|refine Bz.set ?_ (by first|assumption|exact Nat.le_refl _|exact Bz.size (by assumption)) _ _)))|go_keep)
   (first
     |(go_at_call 49;refine(O1.out _).mono ?_;rintro e v1 ⟨rfl,hb1⟩;have hz1:Bz W6 v1:=Bz.call (by repeat' (first|assumption|exact Bz.refl _|refine Bz.drew ?_|refine Bz.alloc ?_ _|refine Bz.set ?_ (by first|assumption|exact Nat.le_refl _|exact Bz.size (by assumption)) _ _)) hb1)
     |(go_at_call 56;refine(M1.out _).mono ?_;rintro e v2 ⟨rfl,hb2⟩;have hz2:Bz W6 v2:=Bz.call (by repeat' (first|assumption|exact Bz.refl _|refine Bz.drew ?_|refine Bz.alloc ?_ _|refine Bz.set ?_ (by first|assumption|exact Nat.le_refl _|exact Bz.size (by assumption)) _ _)) hb2)
     |(go_at_call 87;refine(R1.out _ (Hc.out.here hz2).k.pw).mono ?_;rintro e v3 ⟨rfl,hb3⟩;have hz3:Bz W6 v3:=Bz.call (by repeat' (first|assumption|exact Bz.refl _|refine Bz.drew ?_|refine Bz.alloc ?_ _|refine Bz.set ?_ (by first|assumption|exact Nat.le_refl _|exact Bz.size (by assumption)) _ _)) hb3;have n8:=(Hc.out.here hz3).k.c 0 8 rfl rfl;have g8:=(Hc.out.here hz3).k.f 0 8 rfl))
  all_goals
   go_wp2_with fail
   go_meet
   exact(Hc.out.here hz3).set 0 8 rfl (by decide) (by decide) _
 case rest=>
 have HP:=hcut;clear hcut Hc O1 M1 R1;obtain⟨w7,rfl⟩:∃W,W=wc:=⟨_,rfl⟩
 have c6:=HP.out.k.c 0 6 rfl rfl;have c7:=HP.out.k.c 0 7 rfl rfl;have e8:=HP.out.k.c 2 8 rfl rfl;have e9:=HP.out.k.c 2 9 rfl rfl;go_wp2_with fail
 refine(M2.out _).mono ?_;rintro e w8 ⟨rfl,hb⟩;replace HP:=jq (HP.out.here hb);clear hb M2 c6 c7 e8 e9;go_wp2_with fail
 refine(R2.out _ HP.out.k.pw).mono ?_;rintro e w9 ⟨rfl,hb⟩;replace HP:=jq (HP.out.here hb);clear hb R2;have d10:=HP.out.k.c 0 10 rfl rfl;have f10:=HP.out.k.f 0 10 rfl;have Ha:=jq (show Pr w Ao k co old A1 c1 (old.map (·.q)) A2 c2 (old.map (·.c)) [(q,#[.slice Ao k co,.slice none 0 0,.slice none 0 0,.slice none 0 0,.slice none 0 0,.string ⟨tp.toArray⟩,.string ⟨fp.n.toArray⟩,.string ⟨fp.d.toArray⟩,.string ⟨tm.toArray⟩,.string ⟨#[]⟩,.string ⟨tca.toArray⟩],73),(w.1.size+1,#[.slice none 0 0,.slice none 0 0,.slice none 0 0,.slice none 0 0,.slice none 0 0,.string ⟨#[]⟩,.string ⟨#[]⟩,.string ⟨#[]⟩,.string ⟨#[]⟩,.string ⟨#[]⟩,.string ⟨#[]⟩],73),(w.1.size,#[.string ⟨m.cause.toArray⟩,.int .i64 m.day,.string ⟨m.inst.toArray⟩,.string ⟨m.other.toArray⟩,.string ⟨m.ratio.n.toArray⟩,.string ⟨m.ratio.d.toArray⟩,.string ⟨m.share.n.toArray⟩,.string ⟨m.share.d.toArray⟩,.string ⟨m.price.n.toArray⟩,.string ⟨m.price.d.toArray⟩,.bool m.keep],28)] (w9.setCell ⟨q,10,none⟩ (.string ⟨tca.toArray⟩)) from HP.out.set 0 10 rfl (by decide) (by decide) _);go_upto_region 9 with (fail)
 clear d10 f10 HP;generalize w9.setCell ⟨q,10,none⟩ (.string ⟨tca.toArray⟩)=Wa at*;have c6:=Ha.out.k.c 0 6 rfl rfl;have c7:=Ha.out.k.c 0 7 rfl rfl;obtain⟨bt,hbt⟩:∃b:Bool,b=decide (x.part≠0):=⟨_,rfl⟩
 have Hf:=jq hbt;clear hbt
 go_cut [59] (fun b wc=>b=.bool bt/\Hid (Pr w Ao k co old A1 c1 (old.map (·.q)) A2 c2 (old.map (·.c)) [(q,#[.slice Ao k co,.slice none 0 0,.slice none 0 0,.slice none 0 0,.slice none 0 0,.string ⟨tp.toArray⟩,.string ⟨fp.n.toArray⟩,.string ⟨fp.d.toArray⟩,.string ⟨tm.toArray⟩,.string ⟨#[]⟩,.string ⟨tca.toArray⟩],73),(w.1.size+1,#[.slice none 0 0,.slice none 0 0,.slice none 0 0,.slice none 0 0,.slice none 0 0,.string ⟨#[]⟩,.string ⟨#[]⟩,.string ⟨#[]⟩,.string ⟨#[]⟩,.string ⟨#[]⟩,.string ⟨#[]⟩],73),(w.1.size,#[.string ⟨m.cause.toArray⟩,.int .i64 m.day,.string ⟨m.inst.toArray⟩,.string ⟨m.other.toArray⟩,.string ⟨m.ratio.n.toArray⟩,.string ⟨m.ratio.d.toArray⟩,.string ⟨m.share.n.toArray⟩,.string ⟨m.share.d.toArray⟩,.string ⟨m.price.n.toArray⟩,.string ⟨m.price.d.toArray⟩,.bool m.keep],28)] wc))
 case first=>
  rcases HF.out with ⟨h1,rfl,rfl⟩|⟨h1,h2,h3,rfl,rfl⟩|⟨h1,h2,h3,h4,h5⟩
  ·have hb:bt=false:=by rw[Hf.out];simp[h1]
   subst hb;clear h1;go_wp2_with fail
   all_goals
    go_meet
    exact⟨rfl,Ha⟩
  all_goals
   have hb:bt=true:=by rw[Hf.out];simp[h1]
   subst hb;have hn3:(fp.n !=[])=true:=by simp[bne,h3]
   have he3:fp.n.isEmpty=false:=by
    cases h:fp.n with
    |nil=>rw[h] at h3;cases h3
    |cons _ _=>rfl
   clear h1 h2;go_wp2_with fail
   all_goals
    go_meet
    exact⟨rfl,Ha⟩
 case rest=>
 clear Ha c6 c7;obtain⟨rfl,Ha⟩:=hcut
 obtain⟨Wa,rfl⟩:∃W,W=wc:=⟨_,rfl⟩
 go_upto_if 59 with (fail)
 go_cut [] (fun wc=>Hid (Pr w Ao k co old A1 c1 (old.map (·.q)) A2 c2 (old.map (·.c)) [(q,#[.slice Ao k co,.slice none 0 0,.slice none 0 0,.slice none 0 0,.slice none 0 0,.string ⟨tp.toArray⟩,.string ⟨fp.n.toArray⟩,.string ⟨fp.d.toArray⟩,.string ⟨tm.toArray⟩,.string ⟨tt.toArray⟩,.string ⟨tca.toArray⟩],73),(w.1.size+1,#[.slice none 0 0,.slice none 0 0,.slice none 0 0,.slice none 0 0,.slice none 0 0,.string ⟨#[]⟩,.string ⟨#[]⟩,.string ⟨#[]⟩,.string ⟨#[]⟩,.string ⟨#[]⟩,.string ⟨#[]⟩],73),(w.1.size,#[.string ⟨m.cause.toArray⟩,.int .i64 m.day,.string ⟨m.inst.toArray⟩,.string ⟨m.other.toArray⟩,.string ⟨m.ratio.n.toArray⟩,.string ⟨m.ratio.d.toArray⟩,.string ⟨m.share.n.toArray⟩,.string ⟨m.share.d.toArray⟩,.string ⟨m.price.n.toArray⟩,.string ⟨m.price.d.toArray⟩,.bool m.keep],28)] wc))
 case first=>
  rcases HF.out with ⟨h1,rfl,rfl⟩|⟨h1,h2,h3,rfl,rfl⟩|⟨h1,h2,h3,h4,h5⟩
  ·have hb:bt=false:=by rw[Hf.out];simp[h1]
   subst hb;clear h1;go_wp2_with fail
   go_meet
   exact Ha.out
  ·have hb:bt=true:=by rw[Hf.out];simp[h1]
   subst hb;have hn3:(fp.n !=[])=true:=by simp[bne,h3]
   have he3:fp.n.isEmpty=false:=by
    cases h:fp.n with
    |nil=>rw[h] at h3;cases h3
    |cons _ _=>rfl
   clear h1 h2;have c8:=Ha.out.k.c 0 8 rfl rfl;have d9:=Ha.out.k.c 0 9 rfl rfl;have f9:=Ha.out.k.f 0 9 rfl;have c5:=Ha.out.k.c 0 5 rfl rfl;go_wp2_with fail
   go_meet
   exact Ha.out.set 0 9 rfl (by decide) (by decide) _
  ·have hb:bt=true:=by rw[Hf.out];simp[h1]
   subst hb;have hn3:(fp.n !=[])=true:=by simp[bne,h3]
   have he3:fp.n.isEmpty=false:=by
    cases h:fp.n with
    |nil=>rw[h] at h3;cases h3
    |cons _ _=>rfl
   have hn4:(tp !=[])=true:=by simp[bne,h4]
   have SH2:=jq (SH.out h1 h2);clear h1 h2;have c8:=Ha.out.k.c 0 8 rfl rfl;have d9:=Ha.out.k.c 0 9 rfl rfl;have f9:=Ha.out.k.f 0 9 rfl;have c5:=Ha.out.k.c 0 5 rfl rfl;have HPb:=jq (show Pr w Ao k co old A1 c1 (old.map (·.q)) A2 c2 (old.map (·.c)) [(q,#[.slice Ao k co,.slice none 0 0,.slice none 0 0,.slice none 0 0,.slice none 0 0,.string ⟨tp.toArray⟩,.string ⟨fp.n.toArray⟩,.string ⟨fp.d.toArray⟩,.string ⟨tm.toArray⟩,.string ⟨tm.toArray⟩,.string ⟨tca.toArray⟩],73),(w.1.size+1,#[.slice none 0 0,.slice none 0 0,.slice none 0 0,.slice none 0 0,.slice none 0 0,.string ⟨#[]⟩,.string ⟨#[]⟩,.string ⟨#[]⟩,.string ⟨#[]⟩,.string ⟨#[]⟩,.string ⟨#[]⟩],73),(w.1.size,#[.string ⟨m.cause.toArray⟩,.int .i64 m.day,.string ⟨m.inst.toArray⟩,.string ⟨m.other.toArray⟩,.string ⟨m.ratio.n.toArray⟩,.string ⟨m.ratio.d.toArray⟩,.string ⟨m.share.n.toArray⟩,.string ⟨m.share.d.toArray⟩,.string ⟨m.price.n.toArray⟩,.string ⟨m.price.d.toArray⟩,.bool m.keep],28)] (Wa.setCell ⟨q,9,none⟩ (.string ⟨tm.toArray⟩)) from Ha.out.set 0 9 rfl (by decide) (by decide) _);go_upto_region 12 with (fail)
   clear c8 d9 f9 c5;generalize Wa.setCell ⟨q,9,none⟩ (.string ⟨tm.toArray⟩)=Wb at*
   go_cut [10,11] (fun u v wc=>u=.string ⟨tnum.toArray⟩/\v=.string ⟨tden.toArray⟩/\Hid (Pr w Ao k co old A1 c1 (old.map (·.q)) A2 c2 (old.map (·.c)) [(q,#[.slice Ao k co,.slice none 0 0,.slice none 0 0,.slice none 0 0,.slice none 0 0,.string ⟨tp.toArray⟩,.string ⟨fp.n.toArray⟩,.string ⟨fp.d.toArray⟩,.string ⟨tm.toArray⟩,.string ⟨tm.toArray⟩,.string ⟨tca.toArray⟩],73),(w.1.size+1,#[.slice none 0 0,.slice none 0 0,.slice none 0 0,.slice none 0 0,.slice none 0 0,.string ⟨#[]⟩,.string ⟨#[]⟩,.string ⟨#[]⟩,.string ⟨#[]⟩,.string ⟨#[]⟩,.string ⟨#[]⟩],73),(w.1.size,#[.string ⟨m.cause.toArray⟩,.int .i64 m.day,.string ⟨m.inst.toArray⟩,.string ⟨m.other.toArray⟩,.string ⟨m.ratio.n.toArray⟩,.string ⟨m.ratio.d.toArray⟩,.string ⟨m.share.n.toArray⟩,.string ⟨m.share.d.toArray⟩,.string ⟨m.price.n.toArray⟩,.string ⟨m.price.d.toArray⟩,.bool m.keep],28)] wc))
   case first=>
    have hS:=jq (fun V (h:Bz Wb V)=>(show V.cell? ⟨w.1.size,4,none⟩=some (.string ⟨m.ratio.n.toArray⟩)/\V.cell? ⟨w.1.size,5,none⟩=some (.string ⟨m.ratio.d.toArray⟩) from⟨(HPb.out.here h).k.c 2 4 rfl rfl,(HPb.out.here h).k.c 2 5 rfl rfl⟩))
    go_region_held3 (fun w'=>w'.cell? ⟨w.1.size,4,none⟩=some (.string ⟨m.ratio.n.toArray⟩)/\w'.cell? ⟨w.1.size,5,none⟩=some (.string ⟨m.ratio.d.toArray⟩))
     (first|(exact hS.out _ (by repeat' (first|assumption|exact Bz.refl _|refine Bz.drew ?_|refine Bz.alloc ?_ _|refine Bz.set ?_ (by first|assumption|exact Nat.le_refl _|exact Bz.size (by assumption)) _ _)))|go_keep)
     (first
       |(go_at_call 49;refine(O2.out _).mono ?_;rintro e v1 ⟨rfl,hb1⟩;have hz1:Bz Wb v1:=Bz.call (by repeat' (first|assumption|exact Bz.refl _|refine Bz.drew ?_|refine Bz.alloc ?_ _|refine Bz.set ?_ (by first|assumption|exact Nat.le_refl _|exact Bz.size (by assumption)) _ _)) hb1)
       |(go_at_call 56;refine(M3.out _).mono ?_;rintro e v2 ⟨rfl,hb2⟩;have hz2:Bz Wb v2:=Bz.call (by repeat' (first|assumption|exact Bz.refl _|refine Bz.drew ?_|refine Bz.alloc ?_ _|refine Bz.set ?_ (by first|assumption|exact Nat.le_refl _|exact Bz.size (by assumption)) _ _)) hb2)
       |(go_at_call 88;refine(PR.out _).mono ?_;rintro e v3 ⟨rfl,hb3⟩;have hz3:Bz Wb v3:=Bz.call (by repeat' (first|assumption|exact Bz.refl _|refine Bz.drew ?_|refine Bz.alloc ?_ _|refine Bz.set ?_ (by first|assumption|exact Nat.le_refl _|exact Bz.size (by assumption)) _ _)) hb3))
    all_goals
     go_wp2_with fail
     go_meet
     exact⟨rfl,rfl,HPb.out.here hz3⟩
   case rest=>
   obtain⟨rfl,rfl,HPc⟩:=hcut
   clear HPb;obtain⟨wd,rfl⟩:∃W,W=wc:=⟨_,rfl⟩
   go_upto_region 13 with (fail)
   have hS:=jq (fun V (h:Bz wd V)=>(show V.cell? ⟨q,8,none⟩=some (.string ⟨tm.toArray⟩)/\V.cell? ⟨q,5,none⟩=some (.string ⟨tp.toArray⟩) from⟨(HPc.out.here h).k.c 0 8 rfl rfl,(HPc.out.here h).k.c 0 5 rfl rfl⟩));have hS2:=jq (fun V (h:Bz wd V) u=>(show(V.setCell ⟨q,9,none⟩ u).cell? ⟨q,8,none⟩=some (.string ⟨tm.toArray⟩)/\(V.setCell ⟨q,9,none⟩ u).cell? ⟨q,5,none⟩=some (.string ⟨tp.toArray⟩) from⟨((HPc.out.here h).k.set 0 9 rfl u).c 0 8 rfl rfl,((HPc.out.here h).k.set 0 9 rfl u).c 0 5 rfl rfl⟩))
   go_region_held3 (fun w'=>w'.cell? ⟨q,8,none⟩=some (.string ⟨tm.toArray⟩)/\w'.cell? ⟨q,5,none⟩=some (.string ⟨tp.toArray⟩))
    (first|(exact hS2.out _ (by assumption) _)|(exact hS.out _ (by repeat' (first|assumption|exact Bz.refl _|refine Bz.drew ?_|refine Bz.alloc ?_ _|refine Bz.set ?_ (by first|assumption|exact Nat.le_refl _|exact Bz.size (by assumption)) _ _)))|go_keep)
    (first
      |(go_at_call 90;refine(M4.out _).mono ?_;rintro e v1 ⟨rfl,hb1⟩;have hz1:Bz wd v1:=Bz.call (by repeat' (first|assumption|exact Bz.refl _|refine Bz.drew ?_|refine Bz.alloc ?_ _|refine Bz.set ?_ (by first|assumption|exact Nat.le_refl _|exact Bz.size (by assumption)) _ _)) hb1)
      |(go_at_call 35;refine(S1_.out _).mono ?_;rintro e v2 ⟨rfl,hb2⟩;have hz2:Bz wd v2:=Bz.call (by repeat' (first|assumption|exact Bz.refl _|refine Bz.drew ?_|refine Bz.alloc ?_ _|refine Bz.set ?_ (by first|assumption|exact Nat.le_refl _|exact Bz.size (by assumption)) _ _)) hb2)
      |(go_at_call 89;refine(SH2.out _ (HPc.out.here hz2).k.pw).mono ?_;rintro e v3 ⟨rfl,hb3⟩;have hz3:Bz wd v3:=Bz.call (by repeat' (first|assumption|exact Bz.refl _|refine Bz.drew ?_|refine Bz.alloc ?_ _|refine Bz.set ?_ (by first|assumption|exact Nat.le_refl _|exact Bz.size (by assumption)) _ _)) hb3;have n9:=(HPc.out.here hz3).k.c 0 9 rfl rfl;have g9:=(HPc.out.here hz3).k.f 0 9 rfl))
   all_goals
    go_wp2_with fail
    go_meet
    exact(HPc.out.here hz3).set 0 9 rfl (by decide) (by decide) _
 case rest=>
 have HP:=hcut;clear hcut Ha O2 M3 PR M4 S1_ SH HF;obtain⟨we,rfl⟩:∃W,W=wc:=⟨_,rfl⟩
 go_upto_region 14 with (fail)
 go_cut [] (fun wc=>∃Pn Pm Pp:Nat,Hid (Pr w Ao k co old A1 c1 (old.map (·.q)) A2 c2 (old.map (·.c)) [(Pp,Qo x.p k k,24),(Pm,Qo x.m k k,24),(Pn,Qo x.n k k,24),(q,#[.slice Ao k co,.slice (some ⟨Pn,0,none⟩) k k,.slice (some ⟨Pm,0,none⟩) k k,.slice none 0 0,.slice (some ⟨Pp,0,none⟩) k k,.string ⟨tp.toArray⟩,.string ⟨fp.n.toArray⟩,.string ⟨fp.d.toArray⟩,.string ⟨tm.toArray⟩,.string ⟨tt.toArray⟩,.string ⟨tca.toArray⟩],73),(w.1.size+1,#[.slice none 0 0,.slice none 0 0,.slice none 0 0,.slice none 0 0,.slice none 0 0,.string ⟨#[]⟩,.string ⟨#[]⟩,.string ⟨#[]⟩,.string ⟨#[]⟩,.string ⟨#[]⟩,.string ⟨#[]⟩],73),(w.1.size,#[.string ⟨m.cause.toArray⟩,.int .i64 m.day,.string ⟨m.inst.toArray⟩,.string ⟨m.other.toArray⟩,.string ⟨m.ratio.n.toArray⟩,.string ⟨m.ratio.d.toArray⟩,.string ⟨m.share.n.toArray⟩,.string ⟨m.share.d.toArray⟩,.string ⟨m.price.n.toArray⟩,.string ⟨m.price.d.toArray⟩,.bool m.keep],28)] wc))
 case first=>
  have hS:=jq (fun V (h:Bz we V)=>(show V.cell? ⟨q,5,none⟩=some (.string ⟨tp.toArray⟩)/\V.cell? ⟨q,8,none⟩=some (.string ⟨tm.toArray⟩)/\V.cell? ⟨q,10,none⟩=some (.string ⟨tca.toArray⟩) from⟨(HP.out.here h).k.c 0 5 rfl rfl,(HP.out.here h).k.c 0 8 rfl rfl,(HP.out.here h).k.c 0 10 rfl rfl⟩))
  have hK:=jq (fun(V:World) (j:Nat) (v:Value) (hj:j≠5/\j≠8/\j≠10) (h:V.cell? ⟨q,5,none⟩=some (.string ⟨tp.toArray⟩)/\V.cell? ⟨q,8,none⟩=some (.string ⟨tm.toArray⟩)/\V.cell? ⟨q,10,none⟩=some (.string ⟨tca.toArray⟩))=>(show(V.setCell ⟨q,j,none⟩ v).cell? ⟨q,5,none⟩=some (.string ⟨tp.toArray⟩)/\(V.setCell ⟨q,j,none⟩ v).cell? ⟨q,8,none⟩=some (.string ⟨tm.toArray⟩)/\(V.setCell ⟨q,j,none⟩ v).cell? ⟨q,10,none⟩=some (.string ⟨tca.toArray⟩) from by
   have n5:(⟨q,j,none⟩:Addr)≠⟨q,5,none⟩:=fun e=>by injection e with _ e;exact hj.1 e
   have n8:(⟨q,j,none⟩:Addr)≠⟨q,8,none⟩:=fun e=>by injection e with _ e;exact hj.2.1 e
   have n10:(⟨q,j,none⟩:Addr)≠⟨q,10,none⟩:=fun e=>by injection e with _ e;exact hj.2.2 e
   exact⟨(World.cell?_setCell_other _ _ _ _ n5).trans h.1,(World.cell?_setCell_other _ _ _ _ n8).trans h.2.1,(World.cell?_setCell_other _ _ _ _ n10).trans h.2.2⟩))
  clear P4 Hb Hg HK Ho
  go_region_held3 (fun w'=>w'.cell? ⟨q,5,none⟩=some (.string ⟨tp.toArray⟩)/\w'.cell? ⟨q,8,none⟩=some (.string ⟨tm.toArray⟩)/\w'.cell? ⟨q,10,none⟩=some (.string ⟨tca.toArray⟩))
   (first
     |(exact hK.out _ _ _ (by decide) (hK.out _ _ _ (by decide) (hK.out _ _ _ (by decide) ⟨t5,t8,t10⟩)))
     |(exact hK.out _ _ _ (by decide) (hK.out _ _ _ (by decide) ⟨t5,t8,t10⟩))
     |(exact hK.out _ _ _ (by decide) ⟨t5,t8,t10⟩)
     |(exact⟨t5,t8,t10⟩)
     |(exact hS.out _ (by repeat' (first|assumption|exact Bz.refl _|refine Bz.drew ?_|refine Bz.alloc ?_ _|refine Bz.set ?_ (by first|assumption|exact Nat.le_refl _|exact Bz.size (by assumption)) _ _)))|go_keep)
   (first
     |(go_at_call_of 91 (Value.string ⟨tp.toArray⟩);refine(P1.out _ _ _ HP.out.drew.k.pw (HP.out.drew.q.sl Xx)).mono ?_;rintro e v1 ⟨Pn,rfl,hB1,hl1,hb1⟩;have G1:=HP.out.drew.add hb1 Pn hl1 hB1;have hz1:Bz we v1:=Bz.call (by repeat' (first|assumption|exact Bz.refl _|refine Bz.drew ?_|refine Bz.alloc ?_ _|refine Bz.set ?_ (by first|assumption|exact Nat.le_refl _|exact Bz.size (by assumption)) _ _)) hb1)
     |(go_at_call_of 91 (Value.string ⟨tm.toArray⟩);refine(P2.out _ _ _ G1.k.pw (G1.c.sl Xx)).mono ?_;rintro e v2 ⟨Pm,rfl,hB2,hl2,hb2⟩;have G2:=G1.add hb2 Pm hl2 hB2;have hz2:Bz we v2:=Bz.call (by repeat' (first|assumption|exact Bz.refl _|refine Bz.drew ?_|refine Bz.alloc ?_ _|refine Bz.set ?_ (by first|assumption|exact Nat.le_refl _|exact Bz.size (by assumption)) _ _)) hb2)
     |(go_at_call_of 91 (Value.string ⟨tca.toArray⟩);refine(P3.out _ _ _ G2.k.pw (G2.q.sl Xx)).mono ?_;rintro e v3 ⟨Pp,rfl,hB3,hl3,hb3⟩;have G3:=G2.add hb3 Pp hl3 hB3;have hz3:Bz we v3:=Bz.call (by repeat' (first|assumption|exact Bz.refl _|refine Bz.drew ?_|refine Bz.alloc ?_ _|refine Bz.set ?_ (by first|assumption|exact Nat.le_refl _|exact Bz.size (by assumption)) _ _)) hb3;have t5:=G3.k.c 3 5 rfl rfl;have t8:=G3.k.c 3 8 rfl rfl;have t10:=G3.k.c 3 10 rfl rfl;have n1:=G3.k.c 3 1 rfl rfl;have n2:=G3.k.c 3 2 rfl rfl;have n4:=G3.k.c 3 4 rfl rfl;have g1:=G3.k.f 3 1 rfl;have g2:=G3.k.f 3 2 rfl;have g4:=G3.k.f 3 4 rfl))
  all_goals
   go_wp2_with fail
   go_meet
   first
    |exact⟨Pn,Pm,Pp,((G3.set 3 1 rfl (by decide) (by decide) _).set 3 2 rfl (by decide) (by decide) _).set 3 4 rfl (by decide) (by decide) _⟩
    |exact⟨Pn,Pm,Pp,((G3.set 3 1 rfl (by decide) (by decide) _).set 3 4 rfl (by decide) (by decide) _).set 3 2 rfl (by decide) (by decide) _⟩
    |exact⟨Pn,Pm,Pp,((G3.set 3 2 rfl (by decide) (by decide) _).set 3 1 rfl (by decide) (by decide) _).set 3 4 rfl (by decide) (by decide) _⟩
    |exact⟨Pn,Pm,Pp,((G3.set 3 2 rfl (by decide) (by decide) _).set 3 4 rfl (by decide) (by decide) _).set 3 1 rfl (by decide) (by decide) _⟩
    |exact⟨Pn,Pm,Pp,((G3.set 3 4 rfl (by decide) (by decide) _).set 3 1 rfl (by decide) (by decide) _).set 3 2 rfl (by decide) (by decide) _⟩
    |exact⟨Pn,Pm,Pp,((G3.set 3 4 rfl (by decide) (by decide) _).set 3 2 rfl (by decide) (by decide) _).set 3 1 rfl (by decide) (by decide) _⟩
 case rest=>
 clear HP P1 P2 P3;obtain⟨Pn,Pm,Pp,HP⟩:=hcut
 obtain⟨wf,rfl⟩:∃W,W=wc:=⟨_,rfl⟩
 have c9:=HP.out.k.c 3 9 rfl rfl;have c2:=HP.out.k.c 3 2 rfl rfl;go_wp2_with fail
 refine(P4.out _ _ _ HP.out.k.pw (Yq (HP.out.k.at_ 1 rfl) Hb.out.2.1)).mono ?_;rintro e wg ⟨Pf,rfl,hB,hl,hb⟩;have HPg:=jq (HP.out.add hb Pf hl hB);clear hB hl hb c9 c2 HP P4;have d3:=HPg.out.k.c 4 3 rfl rfl;have f3:=HPg.out.k.f 4 3 rfl;have HPh:=jq (show Pr w Ao k co old A1 c1 (old.map (·.q)) A2 c2 (old.map (·.c)) [(Pf,Qo x.f k k,24),(Pp,Qo x.p k k,24),(Pm,Qo x.m k k,24),(Pn,Qo x.n k k,24),(q,#[.slice Ao k co,.slice (some ⟨Pn,0,none⟩) k k,.slice (some ⟨Pm,0,none⟩) k k,.slice (some ⟨Pf,0,none⟩) k k,.slice (some ⟨Pp,0,none⟩) k k,.string ⟨tp.toArray⟩,.string ⟨fp.n.toArray⟩,.string ⟨fp.d.toArray⟩,.string ⟨tm.toArray⟩,.string ⟨tt.toArray⟩,.string ⟨tca.toArray⟩],73),(w.1.size+1,#[.slice none 0 0,.slice none 0 0,.slice none 0 0,.slice none 0 0,.slice none 0 0,.string ⟨#[]⟩,.string ⟨#[]⟩,.string ⟨#[]⟩,.string ⟨#[]⟩,.string ⟨#[]⟩,.string ⟨#[]⟩],73),(w.1.size,#[.string ⟨m.cause.toArray⟩,.int .i64 m.day,.string ⟨m.inst.toArray⟩,.string ⟨m.other.toArray⟩,.string ⟨m.ratio.n.toArray⟩,.string ⟨m.ratio.d.toArray⟩,.string ⟨m.share.n.toArray⟩,.string ⟨m.share.d.toArray⟩,.string ⟨m.price.n.toArray⟩,.string ⟨m.price.d.toArray⟩,.bool m.keep],28)] (wg.setCell ⟨q,3,none⟩ (.slice (some ⟨Pf,0,none⟩) k k)) from HPg.out.set 4 3 rfl (by decide) (by decide) _);go_upto_region 16 with (fail)
 clear d3 f3 HPg;generalize wg.setCell ⟨q,3,none⟩ (.slice (some ⟨Pf,0,none⟩) k k)=Wh at*;obtain⟨y0,y1,y2,y3,y4,y5,y6,y7,y8,y9,y10⟩:=z11 HPh.out.k (i:=4) rfl
 obtain⟨d0,d1,d2,d3,d4,d5,d6,d7,d8,d9,d10⟩:=z11 HPh.out.k (i:=5) rfl
 have f0:=HPh.out.k.f 5 0 rfl;have f1:=HPh.out.k.f 5 1 rfl;have f2:=HPh.out.k.f 5 2 rfl;have f3:=HPh.out.k.f 5 3 rfl;have f4:=HPh.out.k.f 5 4 rfl;have f5:=HPh.out.k.f 5 5 rfl;have f6:=HPh.out.k.f 5 6 rfl;have f7:=HPh.out.k.f 5 7 rfl;have f8:=HPh.out.k.f 5 8 rfl;have f9:=HPh.out.k.f 5 9 rfl;have f10:=HPh.out.k.f 5 10 rfl;have HE:=jq (show Pr w Ao k co old A1 c1 (old.map (·.q)) A2 c2 (old.map (·.c)) [(Pf,Qo x.f k k,24),(Pp,Qo x.p k k,24),(Pm,Qo x.m k k,24),(Pn,Qo x.n k k,24),(q,#[.slice Ao k co,.slice (some ⟨Pn,0,none⟩) k k,.slice (some ⟨Pm,0,none⟩) k k,.slice (some ⟨Pf,0,none⟩) k k,.slice (some ⟨Pp,0,none⟩) k k,.string ⟨tp.toArray⟩,.string ⟨fp.n.toArray⟩,.string ⟨fp.d.toArray⟩,.string ⟨tm.toArray⟩,.string ⟨tt.toArray⟩,.string ⟨tca.toArray⟩],73),(w.1.size+1,#[.slice Ao k co,.slice (some ⟨Pn,0,none⟩) k k,.slice (some ⟨Pm,0,none⟩) k k,.slice (some ⟨Pf,0,none⟩) k k,.slice (some ⟨Pp,0,none⟩) k k,.string ⟨tp.toArray⟩,.string ⟨fp.n.toArray⟩,.string ⟨fp.d.toArray⟩,.string ⟨tm.toArray⟩,.string ⟨tt.toArray⟩,.string ⟨tca.toArray⟩],73),(w.1.size,#[.string ⟨m.cause.toArray⟩,.int .i64 m.day,.string ⟨m.inst.toArray⟩,.string ⟨m.other.toArray⟩,.string ⟨m.ratio.n.toArray⟩,.string ⟨m.ratio.d.toArray⟩,.string ⟨m.share.n.toArray⟩,.string ⟨m.share.d.toArray⟩,.string ⟨m.price.n.toArray⟩,.string ⟨m.price.d.toArray⟩,.bool m.keep],28)] ((((((((((((Wh.setCell ⟨w.1.size+1,0,none⟩ (.slice Ao k co)).setCell ⟨w.1.size+1,1,none⟩ (.slice (some ⟨Pn,0,none⟩) k k)).setCell ⟨w.1.size+1,2,none⟩ (.slice (some ⟨Pm,0,none⟩) k k)).setCell ⟨w.1.size+1,3,none⟩ (.slice (some ⟨Pf,0,none⟩) k k)).setCell ⟨w.1.size+1,4,none⟩ (.slice (some ⟨Pp,0,none⟩) k k)).setCell ⟨w.1.size+1,5,none⟩ (.string ⟨tp.toArray⟩)).setCell ⟨w.1.size+1,6,none⟩ (.string ⟨fp.n.toArray⟩)).setCell ⟨w.1.size+1,7,none⟩ (.string ⟨fp.d.toArray⟩)).setCell ⟨w.1.size+1,8,none⟩ (.string ⟨tm.toArray⟩)).setCell ⟨w.1.size+1,9,none⟩ (.string ⟨tt.toArray⟩)).setCell ⟨w.1.size+1,10,none⟩ (.string ⟨tca.toArray⟩))) from HPh.out.sets11 (i:=5) (T:=73) rfl (by decide) (by decide) (.slice Ao k co) (.slice (some ⟨Pn,0,none⟩) k k) (.slice (some ⟨Pm,0,none⟩) k k) (.slice (some ⟨Pf,0,none⟩) k k) (.slice (some ⟨Pp,0,none⟩) k k) (.string ⟨tp.toArray⟩) (.string ⟨fp.n.toArray⟩) (.string ⟨fp.d.toArray⟩) (.string ⟨tm.toArray⟩) (.string ⟨tt.toArray⟩) (.string ⟨tca.toArray⟩));go_wp2_with fail
 obtain⟨r0,r1,r2,r3,r4,r5,r6,r7,r8,r9,r10⟩:=z11 HE.out.k (i:=5) rfl
 refine bodyPost_ret (v:=.agg #[.slice Ao k co,.slice (some ⟨Pn,0,none⟩) k k,.slice (some ⟨Pm,0,none⟩) k k,.slice (some ⟨Pf,0,none⟩) k k,.slice (some ⟨Pp,0,none⟩) k k,.string ⟨tp.toArray⟩,.string ⟨fp.n.toArray⟩,.string ⟨fp.d.toArray⟩,.string ⟨tm.toArray⟩,.string ⟨tt.toArray⟩,.string ⟨tca.toArray⟩]) (by simp[results,Tryz.results34,go_sem,r0,r1,r2,r3,r4,r5,r6,r7,r8,r9,r10]) rfl ?_;rw[Hg.out];refine⟨Ao,co,some ⟨Pn,0,none⟩,k,some ⟨Pm,0,none⟩,k,some ⟨Pf,0,none⟩,k,some ⟨Pp,0,none⟩,k,?_,HE.out.o.sl Ql,Yq (HE.out.k.at_ 3 rfl) Hb.out.1,Yq (HE.out.k.at_ 2 rfl) Hb.out.2.1,Yq (HE.out.k.at_ 0 rfl) Hb.out.2.2.1,Yq (HE.out.k.at_ 1 rfl) Hb.out.2.2.2,HE.out.k.bl⟩;rw[Ho.out]
structure SzR (ls:List Lot) (m:Mp) (n L:Nat):Prop where
 hn:n<=1002
 hl:∀x∈ls,x.Sz 50000
 hq:∀x∈ls,x.q.length<=L
 hc:∀x∈ls,x.c.length<=L
 hm:m.Max
 hr:m.ratio.Sz L
 hs:m.share.Sz L
 hp:m.price.Sz L
 L1:1<=L
 L2:L<=200
theorem SzR.calls{ls:List Lot}{m:Mp}{n L:Nat}(h:SzR ls m n L)(h1:Xl ls=0)(h2:JE m=0)(h3:Qb ls m.inst≠[]):CzC (Qb ls m.inst) m (Qe (Qb ls m.inst) m):=by
 have hl:=(VQ ls).1 h1;have hm:=(Za1 m).1 h2;exact czC (Xr hl m.inst) hm h3 (Nat.le_trans (Yp ls m.inst) hl.len) h.L1 h.L2 (fun y hy=>h.hq y (List.mem_filter.1 hy).1) (fun y hy=>h.hc y (List.mem_filter.1 hy).1) h.hr h.hs h.hp
end Go.Proofs.YtpnncoinlopndaaGreatDoor
