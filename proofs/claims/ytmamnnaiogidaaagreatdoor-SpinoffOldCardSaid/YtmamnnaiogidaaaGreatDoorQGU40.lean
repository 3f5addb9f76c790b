/- Mq1, Mq2, Mq3, Mq4, Pt. -/
import Derived.Test.YtmamnnaiogidaaaGreatDoorQGU24
set_option maxRecDepth 100000
set_option maxHeartbeats 4000000
namespace Go.Proofs.YtmamnnaiogidaaaGreatDoor
open Go.Lib renaming hid→jq
open Go.RowKit Go.Shelf
section
theorem ZlB:Xh 147 #[] (Qy (Qg 1)):=by
 intro w hp;have H:=jq ((Kp.start hp).new w.1.size rfl #[.string ⟨#[]⟩,.string ⟨#[]⟩] 26);have HOF:=jq (fun W hp=>Vj [49] W hp (by simp));rw[VN,show((1:Int):Rat)=1 from rfl] at HOF;generalize Qg 1=f at*;unfold Qy S at*
 clear hp;go_enter Tryz.func147,Tryz.ntmps147
 go_wp2_with fail
 generalize w.alloc _=W at*;refine(HOF.out _ H.out.po).mono ?_;rintro e w1 ⟨rfl,hb⟩
 try unfold Qy S
 replace H:=jq (H.out.here hb);have c0:w1.cell? ⟨w.1.size,0,none⟩=some (.string ⟨#[]⟩):=H.out.c 0 0 rfl rfl;have c1:w1.cell? ⟨w.1.size,1,none⟩=some (.string ⟨#[]⟩):=H.out.c 0 1 rfl rfl;have f0:=H.out.f 0 0 rfl;have f1:=H.out.f 0 1 rfl;go_wp2_with fail
 refine bodyPost_ret (v:=.agg #[.string ⟨f.n.toArray⟩,.string ⟨f.d.toArray⟩]) (by simp[results,Tryz.results147,go_sem,c0,c1]) rfl ?_;exact⟨rfl,((H.out.set 0 0 rfl _).set 0 1 rfl _).bl⟩
theorem Vr(f:Fr)(hf:f.Sz 20000):Xh 94 #[Qy f] (.int .i64 (QV f.rat 0)):=by
 intro w hp;have H:=jq ((Kp.start hp).new w.1.size rfl #[.string ⟨f.n.toArray⟩,.string ⟨f.d.toArray⟩] 26);have HCM:=jq (fun W hp=>Xw f Fr.zero W hp hf ⟨by simp[Fr.zero],by simp[Fr.zero]⟩);rw[Zc4] at HCM;generalize QV f.rat 0=z at*;have x0:(w.alloc (.cells #[.string ⟨f.n.toArray⟩,.string ⟨f.d.toArray⟩] 26)).cell? ⟨w.1.size,0,none⟩=some (.string ⟨f.n.toArray⟩):=H.out.c 0 0 rfl rfl;have x1:(w.alloc (.cells #[.string ⟨f.n.toArray⟩,.string ⟨f.d.toArray⟩] 26)).cell? ⟨w.1.size,1,none⟩=some (.string ⟨f.d.toArray⟩):=H.out.c 0 1 rfl rfl;unfold Qy S at*
 unfold Fr.zero at*
 clear hp hf;go_enter Tryz.func94,Tryz.ntmps94
 go_wp2_with fail
 generalize w.alloc _=W at*;refine(HCM.out _ H.out.po).mono ?_;rintro e w1 ⟨rfl,hb⟩;go_wp2_with fail
 first|go_ret|skip
 exact⟨rfl,(H.out.here hb).bl⟩
theorem ZbE(f:Fr)(hf:f.Sz 20000):Xh 104 #[Qy f] (S (Qa (rnd f.rat))):=by
 intro w hp;have H:=jq ((Kp.start hp).new w.1.size rfl #[.string ⟨f.n.toArray⟩,.string ⟨f.d.toArray⟩] 26);have HRD:=jq (Zb6 f hf);generalize Qa (rnd f.rat)=t at*;have x0:(w.alloc (.cells #[.string ⟨f.n.toArray⟩,.string ⟨f.d.toArray⟩] 26)).cell? ⟨w.1.size,0,none⟩=some (.string ⟨f.n.toArray⟩):=H.out.c 0 0 rfl rfl;have x1:(w.alloc (.cells #[.string ⟨f.n.toArray⟩,.string ⟨f.d.toArray⟩] 26)).cell? ⟨w.1.size,1,none⟩=some (.string ⟨f.d.toArray⟩):=H.out.c 0 1 rfl rfl;unfold Qy S at*
 clear hp hf;go_enter Tryz.func104,Tryz.ntmps104
 go_wp2_with fail
 generalize w.alloc _=W at*;refine(HRD.out _ H.out.pw).mono ?_;rintro e w1 ⟨rfl,hb⟩;go_wp2_with fail
 first|go_ret|skip
 exact⟨rfl,(H.out.here hb).bl⟩
theorem Zav(A:Option Addr)(n c:Nat)(ws:List (List UInt8))(w:World)(hp:Env w)(hs:Vk w w.1.size A n ws)(hl:∀x∈ws,x.length<=50000)(hn:n<=9999):
 Calls Tryz.prog 70 #[.slice A n c] w (QG (Qa (Qw ws)) w):=by
 have HPO:=jq (show QG (Qa (Qw ws)) w=fun e w'=>e=.returned (S (Qa (Qw ws)))/\Below w.1.size w w' from rfl);generalize QG (Qa (Qw ws)) w=post at*;have HS:=jq hs;have HL:=jq hl;have H0:=jq (Kp.start hp);have hnw:=hs.1;have HNW:=jq hnw;clear hs hl hp hnw;unfold S at*
 go_enter Tryz.func70,Tryz.ntmps70
 go_wp2_with fail
 go_loopw [3,8] (fun s i wr=>∃k:Nat,k<=n/\i=.int .i64 k/\s=.string ⟨(Qa (Qw (ws.take k))).toArray⟩/\Hid (Kp w [] wr)) (fun _ i _=>n-(intOf i).toNat)
 case atStart=>exact⟨0,Nat.zero_le _,rfl,rfl,H0⟩
 case round=>
  clear H0;obtain⟨k,hk,rfl,rfl,H⟩:=hrel
  by_cases hlt:k<n
  ·obtain⟨b,off,x,rfl,hb,hx,d0⟩:=(HS.out.below H.out.bl).st hlt
   have HA:=jq (Xv (Qa (Qw (ws.take k))) x wr H.out.po (by have:=Za1 HL.out (by rw[<-HNW.out];omega) k;omega) (by have:=HL.out x (List.mem_of_getElem? hx);omega));rw[Qc,<-Zej hx] at HA;clear hx;unfold S at HA;go_wp2_with fail
   refine HA.out.mono ?_;rintro e w1 ⟨rfl,hb1⟩
   try unfold S
   go_wp2_with fail
   go_roundw
   case rel=>exact⟨k+1,by omega,by go_num,rfl,H.out.here hb1⟩
   case measure=>simp[intOf];omega
  ·have HE:=jq (show Qa (Qw (ws.take k))=Qa (Qw ws) by rw[List.take_of_length_le (by have:=HNW.out;omega)]);rw[HE.out];go_wp2_with fail
   first|go_ret|skip
   rw[HPO.out];exact⟨rfl,H.out.bl⟩
theorem ZgB(l:List Int)(n:Nat)(hl:∀x∈l,x=0):Qj l n 0=Qj l n n:=by
 unfold Qj
 congr 1
 refine List.map_congr_left fun j hj=> ?_
 rw[if_neg (by omega),if_pos (List.mem_range.1 hj)]
 have h0:l.getD j 0=0:=by
  rw[List.getD_eq_getElem?_getD]
  cases h:l[j]? with
  |none=>rfl
  |some x=>exact hl x (List.mem_of_getElem? h)
 rw[h0];rfl
theorem VP(t:List UInt8)(A:Option Addr)(n c:Nat)(ws:List (List UInt8))(w:World)(hp:Env w)(hs:Vk w w.1.size A n ws)(ht:t.length<=1000)(hl:∀x∈ws,x.length<=1000)(hn:n<=1000)(htc:t=Qa (val t))(h0:0<=val t)(hw0:∀x∈ws,0<=val x)(hwc:∀x∈ws,Xo x=true):
 Calls Tryz.prog 105 #[S t,.slice A n c] w (YL (YP (val t) (ws.map val)) n w):=by
 have HPO:=jq (show YL (YP (val t) (ws.map val)) n w=fun e w'=>∃P,e=.returned (.slice (some ⟨P,0,none⟩) n n)/\BlkB w' P (Qj (YP (val t) (ws.map val)) n n) 24/\w.1.size<=P/\Below w.1.size w w' from rfl);have HDS:=jq (show YP (val t) (ws.map val)=if(ws.map val).sum=0 then(ws.map val).map (fun _=>0) else Yv (val t) (ws.map val) from rfl);generalize YL (YP (val t) (ws.map val)) n w=post at*;generalize YP (val t) (ws.map val)=ds at*;have H:=jq (Kp.start hp);have hnw:=hs.1
 have hany:ws.any (fun x=> !Xo x||decide (val x<0))=false:=by
  rw[List.any_eq_false];intro x hx;have h1:=hwc x hx;have h2:=hw0 x hx;simp[h1];exact h2
 have hcb:Xo t=true:=by unfold Xo;simpa using htc
 have hs0:0<=Qw ws:=QH (l:=ws.map val) (fun y hy=>by obtain⟨x,hx,rfl⟩:=List.mem_map.1 hy;exact hw0 x hx)
 by_cases hz:Qw ws=0
 ·have hc:QX t ws≠0:=by
   unfold QX
   by_cases h1:ws=[]
   ·rw[if_pos h1];decide
   ·rw[if_neg h1,if_neg (by omega),if_neg (by simp[hcb];simpa using hany),if_pos hz];decide
  have HSN:=jq (ZeO t A n c ws w hp hs ht hl (by omega) hc);have hr:(QX t ws !=0)=true:=by simpa using hc
  rw[if_pos (show(ws.map val).sum=0 from hz)] at HDS;have hmk:=run_make_row' (P:=Tryz.prog) 56 24 (.string ⟨#[]⟩) 16 Tryz.underlying56 Zly rfl .i64 .i64 n (by omega) (by omega);rw[XN ds,ZgB ds n (fun x hx=>by rw[HDS.out] at hx;obtain⟨_,_,rfl⟩:=List.mem_map.1 hx;rfl)] at hmk;generalize QX t ws=r at*;clear hp hs ht hl hn htc h0 hw0 hwc hany hcb hs0 hz hc hnw HDS;unfold S at*
  go_enter Tryz.func105,Tryz.ntmps105
  go_wp2_with fail
  refine HSN.out.mono ?_;rintro e w1 ⟨rfl,hb⟩;replace H:=jq (H.out.here hb);clear hb;go_wp2_with fail
  first|go_ret|skip
  have H2:=H.out.new w1.1.size rfl (Qj ds n n) 24;rw[HPO.out];exact⟨_,rfl,H2.at_ 0 rfl,H.out.bl.size,H2.bl⟩
 ·have hne:ws≠[]:=fun e=>hz (by rw[e];rfl)
  have hn0:0<n:=by
   rcases Nat.eq_zero_or_pos n with h|h
   ·exact absurd (List.eq_nil_of_length_eq_zero (by omega)) hne
   ·exact h
  have hc:QX t ws=0:=by
   unfold QX;rw[if_neg hne,if_neg (by omega),if_neg (by simp[hcb];simpa using hany),if_neg hz]
  have HSO:=jq (ZeN t A n c ws w hp hs ht hl hn0 hn htc h0 hw0 (by omega) hc);rw[if_neg (show ¬(ws.map val).sum=0 from hz)] at HDS;rw[<-HDS.out] at HSO;clear hp hs ht hl hn htc h0 hw0 hwc hany hcb hs0 hz hc hnw HDS hne hn0;unfold S at*
  go_enter Tryz.func105,Tryz.ntmps105
  go_wp2_with fail
  refine HSO.out.mono ?_;rintro e w1 ⟨P,rfl,hB,hP,hb⟩;have HB:=jq hB;clear hB;go_wp2_with fail
  first|go_ret|skip
  rw[HPO.out];exact⟨P,rfl,HB.out,hP,(H.out.here hb).bl⟩
end
section
attribute [local go_sem ↓] Go.wp_at_zero Go.wp_at_succ
theorem Jq(k:Int):Qg (k:Rat)=⟨Qa k,[]⟩:=by
 unfold Qg;rw[Rat.num_intCast,Rat.den_intCast,if_pos rfl]
theorem Zm3{f:Fr}{L:Nat}(h:f.Sz L)(hL:1<=L):(Qa (QA f.rat)).length<=L+2:=by
 have h1:=Zcl h hL;have h2:=Zc7 f.rat;have h3:10^L+1<10^(L+1):=by rw[Nat.pow_succ];have:10^1<=10^L:=Nat.pow_le_pow_right (by omega) hL;omega
 exact Qd (L:=L+1) (by have:=h1.1;omega)
theorem Kp.fr{w W:World}{bs:List (Nat×Array Value×TypeId)}{p i:Nat}{f:Fr}{T:TypeId}(h:Kp w bs W)(hb:bs[i]?=some (p,#[.string ⟨f.n.toArray⟩,.string ⟨f.d.toArray⟩],T)):
 W.cell? ⟨p,0,none⟩=some (.string ⟨f.n.toArray⟩)/\W.cell? ⟨p,1,none⟩=some (.string ⟨f.d.toArray⟩):=⟨h.c i 0 hb rfl,h.c i 1 hb rfl⟩
theorem ZdK(f:Fr)(hf:f.Sz 5000):Xh 95 #[Qy f] (.tuple #[S (Qa (QA f.rat)),Qy (Qg (f.rat-((QA f.rat:Int):Rat)))]):=by
 intro w hp;have H:=jq (((Kp.start hp).new w.1.size rfl #[.string ⟨f.n.toArray⟩,.string ⟨f.d.toArray⟩] 26).new (w.1.size+1) (by simp) #[.string ⟨#[]⟩,.string ⟨#[]⟩] 26);have hfl:=Zm3 hf (by omega);have HFL:=jq (ZeG f (hf.more (by omega)));have HOF:=jq (fun W hp=>Vj (Qa (QA f.rat)) W hp (by omega));rw[Qc] at HOF;have HSU:=jq (fun W hp=>Zdi f (Qg ((QA f.rat:Int):Rat)) W hp (hf.more (by omega)) (by rw[Jq];exact⟨by show(Qa _).length<=_;omega,by simp⟩));rw[Qh] at HSU;generalize Qa (QA f.rat)=t at*;generalize Qg (f.rat-((QA f.rat:Int):Rat))=res at*;generalize Qg ((QA f.rat:Int):Rat)=g at*;have x0:=H.out.c 1 0 rfl rfl;have x1:=H.out.c 1 1 rfl rfl;unfold Qy at*
 unfold S at*
 clear hp hf hfl;go_enter Tryz.func95,Tryz.ntmps95
 go_wp2_with fail
 generalize (w.alloc (.cells #[.string ⟨f.n.toArray⟩,.string ⟨f.d.toArray⟩] 26)).alloc (.cells #[.string ⟨#[]⟩,.string ⟨#[]⟩] 26)=W at*;refine(HFL.out _ H.out.pw).mono ?_;rintro e w1 ⟨rfl,hb⟩;replace H:=jq (H.out.here hb);clear hb x0 x1;have x0:=H.out.c 1 0 rfl rfl;have x1:=H.out.c 1 1 rfl rfl;go_wp2_with fail
 go_region_held3 (fun w'=>w'.cell? ⟨w.1.size,0,none⟩=some (.string ⟨f.n.toArray⟩)/\w'.cell? ⟨w.1.size,1,none⟩=some (.string ⟨f.d.toArray⟩))
  (first
    |exact k2
    |exact k3
    |exact k4 _ _
    |go_keep)
  (first
    |(go_at_call 19;refine(HOF.out _ H.out.drew.po).mono ?_;rintro e w2 ⟨rfl,hb2⟩;unfold Qy S;have hz:Below w1.1.size w1 w2:=(Below.refl _ w1).drew.trans hb2;have k2:=(H.out.here hz).fr (f:=f) (i:=1) rfl)
    |(go_at_call 48;refine(HSU.out _ (H.out.here hz).po).mono ?_;rintro e w3 ⟨rfl,hb3⟩;unfold Qy S;have hz2:Below w1.1.size w1 w3:=hz.trans (hb3.mono hz.size);have k3:=(H.out.here hz2).fr (f:=f) (i:=1) rfl;have n0:=(H.out.here hz2).c 0 0 rfl rfl;have n1:=(H.out.here hz2).c 0 1 rfl rfl;have g0:=(H.out.here hz2).f 0 0 rfl;have g1:=(H.out.here hz2).f 0 1 rfl;have k4:=(fun u v=>(((H.out.here hz2).set 0 0 rfl u).set 0 1 rfl v).fr (f:=f) (i:=1) rfl)))
 all_goals
  go_wp2_with fail
  refine bodyPost_ret (v:=.tuple #[.string ⟨t.toArray⟩,.agg #[.string ⟨res.n.toArray⟩,.string ⟨res.d.toArray⟩]]) (by simp[results,Tryz.results95,go_sem,n0,n1]) rfl ?_;exact⟨rfl,(((H.out.here hz2).set 0 0 rfl _).set 0 1 rfl _).bl⟩
end
section
theorem Zm4(q:Rat):(rnd q).natAbs<=q.num.natAbs+2:=by
 have h1:=Zc7 q
 rcases(JA q).2 with h|⟨h,_⟩<;>omega
theorem ZhE{K:Nat}(hK:K<=4000)(hK1:1<=K)(t p a:Int)(ht:t.natAbs<10^K)(hpp:p.natAbs<10^K)(ha:a.natAbs<10^K)(h0:0<=p)(h1:p<=a)(h2:a≠0):
 Xh 149 #[S (Qa t),S (Qa p),S (Qa a)] (.tuple #[S (Qa (ZbP t p a)),S (Qa (t-ZbP t p a)),.int .i64 0]):=by
 intro w hp;have H:=jq (Kp.start hp);have lt:=Qd ht;have lp:=Qd hpp;have la:=Qd ha;have HCT:=jq (Xy (Qa t) (by omega));have HCP:=jq (Xy (Qa p) (by omega));have HCA:=jq (Xy (Qa a) (by omega));rw[if_pos (by rw[Qc])] at HCT HCP HCA;have HNA:=jq (YJ (Qa a) (by omega));have HNP:=jq (YJ (Qa p) (by omega));rw[Qc,show decide (a<0)=false by simp;omega] at HNA;rw[Qc,show decide (p<0)=false by simp;omega] at HNP;have HCM:=jq (fun W=>QC (Qa p) (Qa a) W (by omega) (by omega));rw[Qc,Qc] at HCM;have hgt:decide (0<QO (p-a))=false:=by unfold QO;simp;split<;>(try split)<;>omega
 have HMU:=jq (fun W hp=>Ye (Qa t) (Qa p) W hp (by omega) (by omega));rw[Qc,Qc] at HMU;have hm:=Qt ht hpp;have lm:=Qd hm;have HNW:=jq (ZmL ⟨Qa (t*p),Qa a⟩ ⟨by show(Qa _).length<=_;omega,by show(Qa _).length<=_;omega⟩);have hnl:nwL ⟨Qa (t*p),Qa a⟩=(Qg (Rat.divInt (t*p) a),0):=by unfold nwL;simp only[Qc];rw[if_neg h2]
 rw[hnl] at HNW;have hrb:RB (K+K) (Rat.divInt (t*p) a):=RB.divInt hm (Nat.lt_of_lt_of_le ha (Nat.pow_le_pow_right (by omega) (by omega))) h2;have hsz:=Xe hrb;have HRD:=jq (Zb6 (Qg (Rat.divInt (t*p) a)) (hsz.more (by omega)));rw[Qh,show rnd (Rat.divInt (t*p) a)=ZbP t p a from rfl] at HRD
 have hsl:(ZbP t p a).natAbs<10^(K+K+1):=by
  have h1:=Zm4 (Rat.divInt (t*p) a);have h3:=hrb.1;have h4:10^(K+K)+2<10^(K+K+1):=by rw[Nat.pow_succ];have:10^1<=10^(K+K):=Nat.pow_le_pow_right (by omega) (by omega);omega
  show(rnd _).natAbs<_
  omega
 have ls:=Qd hsl;have HSB:=jq (fun W hp=>Yp (Qa t) (Qa (ZbP t p a)) W hp (by omega) (by omega));rw[Qc,Qc] at HSB
 have hn:(Qa a==[])=false:=by
  rw[Bool.eq_false_iff];intro h;exact h2 (Vt.1 (eq_of_beq h))
 have hn2:(Qa a).isEmpty=false:=by rw[<-hn];cases Qa a<;>rfl
 clear ht hpp ha h0 h1 h2 lt lp la hm lm hnl hrb hsz hsl ls hK hK1 hp;generalize Qg (Rat.divInt (t*p) a)=q at*;generalize Qa (ZbP t p a)=ts at*;generalize Qa (t-ZbP t p a)=tr at*;generalize Qa (t*p)=tm at*;generalize Qa t=tt at*;generalize Qa p=tp at*;generalize Qa a=ta at*;generalize QO (p-a)=sg at*;have HN:=jq hn;unfold Qy at*
 unfold S at*
 go_enter Tryz.func149,Tryz.ntmps149
 go_wp2_with fail
 refine(HCT.out _ H.out.pw).mono ?_;rintro e w1 ⟨rfl,hb⟩;replace H:=jq (H.out.here hb);clear hb;go_wp2_with fail
 refine(HCP.out _ H.out.pw).mono ?_;rintro e w2 ⟨rfl,hb⟩;replace H:=jq (H.out.here hb);clear hb;go_wp2_with fail
 refine(HCA.out _ H.out.pw).mono ?_;rintro e w3 ⟨rfl,hb⟩;replace H:=jq (H.out.here hb);clear hb;go_wp2_with fail
 refine(HNA.out _ H.out.pw).mono ?_;rintro e w4 ⟨rfl,hb⟩;replace H:=jq (H.out.here hb);clear hb;go_wp2_with fail
 refine(HNP.out _ H.out.pw).mono ?_;rintro e w5 ⟨rfl,hb⟩;replace H:=jq (H.out.here hb);clear hb;go_wp2_with fail
 refine(HCM.out _).mono ?_;rintro e w6 ⟨rfl,hb⟩;replace H:=jq (H.out.here hb);clear hb;go_wp2_with fail
 refine(HMU.out _ H.out.po).mono ?_;rintro e w7 ⟨rfl,hb⟩
 try unfold S
 replace H:=jq (H.out.here hb);clear hb;go_wp2_with fail
 refine(HNW.out _ H.out.pw).mono ?_;rintro e w8 ⟨rfl,hb⟩;replace H:=jq (H.out.here hb);clear hb;replace H:=jq (H.out.new w8.1.size rfl #[.string ⟨q.n.toArray⟩,.string ⟨q.d.toArray⟩] 26);have x0:=H.out.c 0 0 rfl rfl;have x1:=H.out.c 0 1 rfl rfl;go_wp2_with fail
 generalize w8.alloc _=W at*;refine(HRD.out _ H.out.pw).mono ?_;rintro e w9 ⟨rfl,hb⟩;replace H:=jq (H.out.here hb);clear hb x0 x1;go_wp2_with fail
 refine(HSB.out _ H.out.po).mono ?_;rintro e w10 ⟨rfl,hb⟩
 try unfold S
 go_wp2_with fail
 refine bodyPost_ret (v:=.tuple #[.string ⟨ts.toArray⟩,.string ⟨tr.toArray⟩,.int .i64 0]) (by simp[results,Tryz.results149,go_sem]) rfl ?_;exact⟨rfl,(H.out.here hb).bl⟩
end
section
attribute [local go_sem ↓] Go.wp_at_zero Go.wp_at_succ
def mpA(m:Mp):List Value:=[S m.cause,.int .i64 m.day,S m.inst,S m.other,S m.ratio.n,S m.ratio.d,S m.share.n,S m.share.d,S m.price.n,S m.price.d,.bool m.keep]
structure PlV where
 m:Mp
 oA:Option Addr
 on:Nat
 oc:Nat
 parts:List UInt8
 part:Fr
 n:Value
 q:Value
 f:Value
 p:Value
def plA(v:PlV):List Value:=mpA v.m++[.slice v.oA v.on v.oc,S v.parts,S v.part.n,S v.part.d,v.n,v.q,v.f,v.p]
theorem ZdL{K:Nat}(hK:K<=5000)(hK1:1<=K)(f:Fr)(d:Int)(D:Nat)(w:World)(hp:Env w)(hf:f.Sz K)(hd:d.natAbs<10^K)(hD:w.cell? ⟨D,0,none⟩=some (.string ⟨(Qa d).toArray⟩)):
 Calls Tryz.prog 148 #[Qy f,.pointer (some ⟨D,0,none⟩)] w fun e w'=>e=.returned (S (Qa (QA (f.rat*(d:Rat)))))/\Below w.1.size w w':=by
 have H:=jq ((Kp.start hp).new w.1.size rfl #[.string ⟨f.n.toArray⟩,.string ⟨f.d.toArray⟩] 26);have hlt:=World.block_lt_of_cell? w _ hD;have hne:D≠w.1.size:=by have:D<w.1.size:=hlt;omega
 have HD:=jq (show ∀W',Below w.1.size w W'->W'.cell? ⟨D,0,none⟩=some (.string ⟨(Qa d).toArray⟩) from fun W' hb=>(hb.cell (p:=⟨D,0,none⟩) hlt).trans hD);have ld:=Qd hd;have hg:(Qg (d:Rat)).Sz (K+1):=by rw[Jq];exact⟨ld,by simp⟩
 have HOF:=jq (fun W hp=>Vj (Qa d) W hp (by omega));rw[Qc] at HOF;have HMU:=jq (fun W hp=>YT f (Qg (d:Rat)) W hp (hf.more (by omega)) (hg.more (by omega)));rw[Qh] at HMU;have hm:=Xe (ZeW (hf.more (show K<=K+1 by omega)) hg (by omega));rw[Qh] at hm;have HFL:=jq (ZeG (Qg (f.rat*(d:Rat))) (hm.more (by omega)));rw[Qh] at HFL;generalize Qa (QA (f.rat*(d:Rat)))=res at*;generalize Qg (f.rat*(d:Rat))=mu at*;generalize Qg (d:Rat)=g at*;generalize Qa d=td at*;clear hp hf hd hD hK hK1 ld hg hm hlt;unfold Qy at*
 unfold S at*
 have y0:=HD.out _ H.out.bl;have x0:=H.out.c 0 0 rfl rfl;have x1:=H.out.c 0 1 rfl rfl;go_enter Tryz.func148,Tryz.ntmps148
 go_upto_region 1 with (fail)
 generalize w.alloc _=W at*
 go_region_held3 (fun w'=>w'.cell? ⟨w.1.size,0,none⟩=some (.string ⟨f.n.toArray⟩)/\w'.cell? ⟨w.1.size,1,none⟩=some (.string ⟨f.d.toArray⟩)/\w'.cell? ⟨D,0,none⟩=some (.string ⟨td.toArray⟩))
  (first
    |exact k2
    |exact k3
    |exact k4
    |go_keep)
  (first
    |(go_at_call 19;refine(HOF.out _ H.out.drew.po).mono ?_;rintro e w2 ⟨rfl,hb2⟩;unfold Qy S;have hz:Below W.1.size W w2:=(Below.refl _ W).drew.trans hb2;have k2:=And.intro ((H.out.here hz).c 0 0 rfl rfl) (And.intro ((H.out.here hz).c 0 1 rfl rfl) (HD.out _ (H.out.here hz).bl)))
    |(go_at_call 42;refine(HMU.out _ (H.out.here hz).po).mono ?_;rintro e w3 ⟨rfl,hb3⟩;unfold Qy S;have hz2:Below W.1.size W w3:=hz.trans (hb3.mono hz.size);have k3:=And.intro ((H.out.here hz2).c 0 0 rfl rfl) (And.intro ((H.out.here hz2).c 0 1 rfl rfl) (HD.out _ (H.out.here hz2).bl)))
    |(go_at_call 137;refine(HFL.out _ (H.out.here hz2).pw).mono ?_;rintro e w4 ⟨rfl,hb4⟩;have hz3:Below W.1.size W w4:=hz2.trans (hb4.mono hz2.size);have k4:=And.intro ((H.out.here hz3).c 0 0 rfl rfl) (And.intro ((H.out.here hz3).c 0 1 rfl rfl) (HD.out _ (H.out.here hz3).bl))))
 all_goals
  go_wp2_with fail
  first|go_ret|skip
  exact⟨rfl,(H.out.here hz3).bl⟩
def ZdM(q:Rat)(mv:Int):Int:=if q-((QA q:Int):Rat)=0 then 0 else if QA q=0 then mv else ZbP mv (Vu q) q.num
theorem Zfu(q:Rat):QA ((q-((QA q:Int):Rat))*((q.den:Int):Rat))=Vu q:=by
 have e:(q-((QA q:Int):Rat))*((q.den:Int):Rat)=((Vu q:Int):Rat):=by
  rw[Zbq];have hd:(q.den:Int)≠0:=by have:=q.den_nz;omega
  rw[<-XH (q.den:Int),Rat.divInt_mul_divInt,<-XH (Vu q),Rat.divInt_eq_divInt_iff (by omega) (by omega)];simp
 rw[e];unfold QA;simp
theorem Zm5(q:Rat):QA (q*((q.den:Int):Rat))=q.num:=by
 have e:q*((q.den:Int):Rat)=((q.num:Int):Rat):=by
  have hd:(q.den:Int)≠0:=by have:=q.den_nz;omega
  conv=>lhs;lhs;rw[Jy q]
  rw[<-XH (q.den:Int),Rat.divInt_mul_divInt,<-XH q.num,Rat.divInt_eq_divInt_iff (by omega) (by omega)];simp
 rw[e];unfold QA;simp
theorem ZhF(v:PlV)(q:Rat)(mv:Int)(w:World){K:Nat}(hK:K<=3000)(hK1:1<=K)(hp:Env w)(hq:RB K q)(hmv:mv.natAbs<10^K)(h0:0<=q)(hv1:v.parts=Qa (QA q))(hv2:v.part=Qg (q-((QA q:Int):Rat))):
 Calls Tryz.prog 106 #[.agg (plA v).toArray,S (Qa mv),Qy (Qg q)] w fun e w'=>e=.returned (S (Qa (ZdM q mv)))/\Below w.1.size w w':=by
 obtain⟨m,oA,on,oc,parts,part,vn,vq,vf,vp⟩:=v
 simp only at hv1 hv2
 subst hv1;subst hv2
 have H:=jq (((Kp.start hp).new w.1.size rfl (plA ⟨m,oA,on,oc,Qa (QA q),Qg (q-((QA q:Int):Rat)),vn,vq,vf,vp⟩).toArray 117).new (w.1.size+1) (by simp) #[.string ⟨(Qg q).n.toArray⟩,.string ⟨(Qg q).d.toArray⟩] 26);have hbd:=Xs q;have hnum:=ZcJ q;have hf0:=Jz h0;have hn0:0<=q.num:=Rat.num_nonneg.2 h0;have hd0:0<(q.den:Int):=by have:=q.den_pos;omega
 have hfl1:Vu q<=q.num:=by
  have:0<=(q.den:Int)*QA q:=Int.mul_nonneg (by omega) hf0
  omega
 have hq1:=hq.1;have hq2:=hq.2;have hpt:RB K (q-((QA q:Int):Rat)):=by rw[Zbq];exact RB.divInt (by omega) (by omega) (by omega)
 have sz1:=Xe hpt;have sz2:=Xe hq;have HSG:=jq (Vr (Qg (q-((QA q:Int):Rat))) (sz1.more (by omega)));rw[Qh] at HSG
 have hsg:(QV (q-((QA q:Int):Rat)) 0==0)=decide (q-((QA q:Int):Rat)=0):=by
  unfold QV;rw[Bool.eq_iff_iff];simp only[beq_iff_eq,decide_eq_true_eq]
  constructor
  ·intro h
   split at h
   ·cases h
   ·split at h
    ·cases h
    ·rename_i h1 h2
     exact Rat.le_antisymm (Rat.not_lt.1 h2) (Rat.not_lt.1 h1)
  ·intro h;rw[h];rfl
 have HFI:=jq (show ZdM q mv=if q-((QA q:Int):Rat)=0 then 0 else if QA q=0 then mv else ZbP mv (Vu q) q.num from rfl);have hpow5:10^K<=10^(K+1):=Nat.pow_le_pow_right (by omega) (by omega);have HPZ:=jq (ZeF (Qg q) (sz2.more (by omega)));rw[Qh] at HPZ;have HF1:=jq (fun D W hp hD=>ZdL (K:=K+1) (by omega) (by omega) (Qg (q-((QA q:Int):Rat))) (q.den:Int) D W hp sz1 (by omega) hD);have HF2:=jq (fun D W hp hD=>ZdL (K:=K+1) (by omega) (by omega) (Qg q) (q.den:Int) D W hp sz2 (by omega) hD);rw[Qh,Zfu] at HF1;rw[Qh,Zm5] at HF2;have HSH:=jq (fun h2=>ZhE (K:=K) (by omega) hK1 mv (Vu q) q.num hmv (by omega) hq1 hbd.1 hfl1 h2)
 have hte:(Qa (QA q)==[])=decide (QA q=0):=by
  rw[Bool.eq_iff_iff];simp only[beq_iff_eq,decide_eq_true_eq];exact Vt
 have hnz:QA q≠0->q.num≠0:=by
  intro h1 h2;have h3:0<(q.den:Int)*QA q:=Int.mul_pos hd0 (by omega);omega
 have e19:(plA ⟨m,oA,on,oc,Qa (QA q),Qg (q-((QA q:Int):Rat)),vn,vq,vf,vp⟩).toArray=#[.string ⟨m.cause.toArray⟩,.int .i64 m.day,.string ⟨m.inst.toArray⟩,.string ⟨m.other.toArray⟩,.string ⟨m.ratio.n.toArray⟩,.string ⟨m.ratio.d.toArray⟩,.string ⟨m.share.n.toArray⟩,.string ⟨m.share.d.toArray⟩,.string ⟨m.price.n.toArray⟩,.string ⟨m.price.d.toArray⟩,.bool m.keep,.slice oA on oc,.string ⟨(Qa (QA q)).toArray⟩,.string ⟨(Qg (q-((QA q:Int):Rat))).n.toArray⟩,.string ⟨(Qg (q-((QA q:Int):Rat))).d.toArray⟩,vn,vq,vf,vp]:=rfl;rw[e19] at H ⊢;clear e19 hp hq hmv h0 hbd hnum hf0 hn0 hd0 hfl1 hq1 hq2 hpt sz1 sz2 hpow5 hK hK1
 by_cases hz:q-((QA q:Int):Rat)=0
 ·rw[if_pos hz] at HFI;have hs:(QV (q-((QA q:Int):Rat)) 0==0)=true:=by rw[hsg];simpa using hz
  clear hsg hz hte hnz HPZ HF1 HF2 HSH;generalize Qg (q-((QA q:Int):Rat))=pt at*;generalize QV (q-((QA q:Int):Rat)) 0=sg at*;generalize Qa (QA q)=tq at*;generalize Qg q=fq at*;generalize Qa mv=tm at*;generalize ZdM q mv=res at*;have HFI2:=HFI.out;subst HFI2;unfold Qy S at*
  have x13:=H.out.c 1 13 rfl rfl;have x14:=H.out.c 1 14 rfl rfl;go_enter Tryz.func106,Tryz.ntmps106
  go_wp2_with fail
  generalize (w.alloc (.cells #[.string ⟨m.cause.toArray⟩,.int .i64 m.day,.string ⟨m.inst.toArray⟩,.string ⟨m.other.toArray⟩,.string ⟨m.ratio.n.toArray⟩,.string ⟨m.ratio.d.toArray⟩,.string ⟨m.share.n.toArray⟩,.string ⟨m.share.d.toArray⟩,.string ⟨m.price.n.toArray⟩,.string ⟨m.price.d.toArray⟩,.bool m.keep,.slice oA on oc,.string ⟨tq.toArray⟩,.string ⟨pt.n.toArray⟩,.string ⟨pt.d.toArray⟩,vn,vq,vf,vp] 117)).alloc (.cells #[.string ⟨fq.n.toArray⟩,.string ⟨fq.d.toArray⟩] 26)=W at*;refine(HSG.out _ H.out.pw).mono ?_;rintro e w1 ⟨rfl,hb⟩;go_wp2_with fail
  first|go_ret|skip
  exact⟨rfl,(H.out.here hb).bl⟩
 ·rw[if_neg hz] at HFI;have hs:(QV (q-((QA q:Int):Rat)) 0==0)=false:=by rw[hsg];simpa using hz
  clear hsg hz
  have hie:(Qa (QA q)).isEmpty=(Qa (QA q)==[]):=by cases Qa (QA q)<;>rfl
  by_cases hq0:QA q=0
  ·rw[if_pos hq0] at HFI;have ht1:(Qa (QA q)==[])=true:=by rw[hte];simpa using hq0
   have ht2:(Qa (QA q)).isEmpty=true:=by rw[hie];exact ht1
   clear hq0 hte hie hnz HPZ HF1 HF2 HSH;generalize Qg (q-((QA q:Int):Rat))=pt at*;generalize QV (q-((QA q:Int):Rat)) 0=sg at*;generalize Qa (QA q)=tq at*;generalize Qg q=fq at*;generalize ZdM q mv=res at*;have HFI2:=HFI.out;subst HFI2;generalize Qa res=tm at*;unfold Qy S at*
   have x13:=H.out.c 1 13 rfl rfl;have x14:=H.out.c 1 14 rfl rfl;go_enter Tryz.func106,Tryz.ntmps106
   go_wp2_with fail
   generalize (w.alloc (.cells #[.string ⟨m.cause.toArray⟩,.int .i64 m.day,.string ⟨m.inst.toArray⟩,.string ⟨m.other.toArray⟩,.string ⟨m.ratio.n.toArray⟩,.string ⟨m.ratio.d.toArray⟩,.string ⟨m.share.n.toArray⟩,.string ⟨m.share.d.toArray⟩,.string ⟨m.price.n.toArray⟩,.string ⟨m.price.d.toArray⟩,.bool m.keep,.slice oA on oc,.string ⟨tq.toArray⟩,.string ⟨pt.n.toArray⟩,.string ⟨pt.d.toArray⟩,vn,vq,vf,vp] 117)).alloc (.cells #[.string ⟨fq.n.toArray⟩,.string ⟨fq.d.toArray⟩] 26)=W at*;refine(HSG.out _ H.out.pw).mono ?_;rintro e w1 ⟨rfl,hb⟩;replace H:=jq (H.out.here hb);clear x13 x14 hb;have x12:=H.out.c 1 12 rfl rfl;go_wp2_with fail
   first|go_ret|skip
   exact⟨rfl,H.out.bl⟩
  ·rw[if_neg hq0] at HFI;have ht1:(Qa (QA q)==[])=false:=by rw[hte];simpa using hq0
   have ht2:(Qa (QA q)).isEmpty=false:=by rw[hie];exact ht1
   have HS2:=jq (HSH.out (hnz hq0));rw[<-HFI.out] at HS2;clear hq0 hte hie hnz HSH HFI;generalize Qg (q-((QA q:Int):Rat))=pt at*;generalize QV (q-((QA q:Int):Rat)) 0=sg at*;generalize Qa (QA q)=tq at*;generalize Qg q=fq at*;generalize Qa (mv-ZdM q mv)=tr at*;generalize Qa (ZdM q mv)=res at*;generalize Qa mv=tm at*;generalize Qa (Vu q)=t1 at*;generalize Qa q.num=t2 at*;generalize Qa (q.den:Int)=t3 at*;unfold Qy S at*
   have x13:=H.out.c 1 13 rfl rfl;have x14:=H.out.c 1 14 rfl rfl;go_enter Tryz.func106,Tryz.ntmps106
   go_wp2_with fail
   generalize (w.alloc (.cells #[.string ⟨m.cause.toArray⟩,.int .i64 m.day,.string ⟨m.inst.toArray⟩,.string ⟨m.other.toArray⟩,.string ⟨m.ratio.n.toArray⟩,.string ⟨m.ratio.d.toArray⟩,.string ⟨m.share.n.toArray⟩,.string ⟨m.share.d.toArray⟩,.string ⟨m.price.n.toArray⟩,.string ⟨m.price.d.toArray⟩,.bool m.keep,.slice oA on oc,.string ⟨tq.toArray⟩,.string ⟨pt.n.toArray⟩,.string ⟨pt.d.toArray⟩,vn,vq,vf,vp] 117)).alloc (.cells #[.string ⟨fq.n.toArray⟩,.string ⟨fq.d.toArray⟩] 26)=W at*;refine(HSG.out _ H.out.pw).mono ?_;rintro e w1 ⟨rfl,hb⟩;replace H:=jq (H.out.here hb);clear x13 x14 hb;have x12:=H.out.c 1 12 rfl rfl;have y0:=H.out.c 0 0 rfl rfl;have y1:=H.out.c 0 1 rfl rfl;go_wp2_with fail
   refine(HPZ.out _ H.out.pw).mono ?_;rintro e w2 ⟨rfl,hb⟩;replace H:=jq (H.out.here hb);clear x12 y0 y1 hb;go_upto_region 7 with (fail)
   replace H:=jq (H.out.new w2.1.size rfl #[.string ⟨t3.toArray⟩] 24);obtain⟨D,hD⟩:∃D,D=w2.1.size:=⟨_,rfl⟩
   rw[<-hD] at H ⊢;generalize w2.alloc _=W2 at*;clear hD;have y0:=H.out.c 1 0 rfl rfl;have y1:=H.out.c 1 1 rfl rfl;have x13:=H.out.c 2 13 rfl rfl;have x14:=H.out.c 2 14 rfl rfl
   go_region_held3 (fun w'=>w'.cell? ⟨w.1.size+1,0,none⟩=some (.string ⟨fq.n.toArray⟩)/\w'.cell? ⟨w.1.size+1,1,none⟩=some (.string ⟨fq.d.toArray⟩)/\w'.cell? ⟨w.1.size,13,none⟩=some (.string ⟨pt.n.toArray⟩)/\w'.cell? ⟨w.1.size,14,none⟩=some (.string ⟨pt.d.toArray⟩))
    (first
      |exact k2
      |exact k3
      |exact k4
      |go_keep)
    (first
      |(go_at_call_of 148 (Value.agg #[.string ⟨pt.n.toArray⟩,.string ⟨pt.d.toArray⟩]);refine(HF1.out D _ H.out.drew.pw (H.out.drew.c 0 0 rfl rfl)).mono ?_;rintro e w3 ⟨rfl,hb3⟩;have hz:Below W2.1.size W2 w3:=(Below.refl _ W2).drew.trans hb3;have k2:=And.intro ((H.out.here hz).c 1 0 rfl rfl) (And.intro ((H.out.here hz).c 1 1 rfl rfl) (And.intro ((H.out.here hz).c 2 13 rfl rfl) ((H.out.here hz).c 2 14 rfl rfl))))
      |(go_at_call_of 148 (Value.agg #[.string ⟨fq.n.toArray⟩,.string ⟨fq.d.toArray⟩]);refine(HF2.out D _ (H.out.here hz).pw ((H.out.here hz).c 0 0 rfl rfl)).mono ?_;rintro e w4 ⟨rfl,hb4⟩;have hz2:Below W2.1.size W2 w4:=hz.trans (hb4.mono hz.size);have k3:=And.intro ((H.out.here hz2).c 1 0 rfl rfl) (And.intro ((H.out.here hz2).c 1 1 rfl rfl) (And.intro ((H.out.here hz2).c 2 13 rfl rfl) ((H.out.here hz2).c 2 14 rfl rfl))))
      |(go_at_call 149;refine(HS2.out _ (H.out.here hz2).pw).mono ?_;rintro e w5 ⟨rfl,hb5⟩;have hz3:Below W2.1.size W2 w5:=hz2.trans (hb5.mono hz2.size);have k4:=And.intro ((H.out.here hz3).c 1 0 rfl rfl) (And.intro ((H.out.here hz3).c 1 1 rfl rfl) (And.intro ((H.out.here hz3).c 2 13 rfl rfl) ((H.out.here hz3).c 2 14 rfl rfl)))))
   all_goals
    go_wp2_with fail
    first|go_ret|skip
    exact⟨rfl,(H.out.here hz3).bl⟩
end
section
attribute [local go_sem ↓] Go.wp_at_zero Go.wp_at_succ
def Jt(q:Rat)(w:World)(e:Ending)(w':World):Prop:=e=.returned (.tuple #[S (Qa (QA q)),Qy (Qg (q-((QA q:Int):Rat))),.int .i64 0])/\Below w.1.size w w'
theorem Zl4(q:List UInt8)(f:Fr)(w:World)(hp:Env w)(hq:q=Qa (val q))(hql:q.length<=200)(hf:f.ok)(hfz:f.Sz 200)(h0:0<=val q)(h1:0<f.rat):
 Calls Tryz.prog 46 #[S q,Qy f] w (Jt (((val q:Int):Rat)*f.rat) w):=by
 have HPO:=jq (show Jt (((val q:Int):Rat)*f.rat) w=fun e w'=>e=.returned (.tuple #[S (Qa (QA (((val q:Int):Rat)*f.rat))),Qy (Qg (((val q:Int):Rat)*f.rat-((QA (((val q:Int):Rat)*f.rat):Int):Rat))),.int .i64 0])/\Below w.1.size w w' from rfl);generalize Jt (((val q:Int):Rat)*f.rat) w=post at*;have HIC:=jq (Xy q (by omega));rw[if_pos hq] at HIC;have HFC:=jq (fun W hW=>Yz f W hW (hfz.more (by omega)));rw[show JR f=0 from if_pos hf] at HFC;have HCM:=jq (fun W=>QC q [] W (by omega) (by simp));rw[XQ,Int.sub_zero] at HCM
 have hs0:decide (QO (val q)<0)=false:=by
  unfold QO;rw[if_neg (by omega)]
  split<;>decide
 have HSG:=jq (Vr f (hfz.more (by omega)))
 have hs1:decide (QV f.rat 0<=0)=false:=by
  unfold QV;rw[if_neg (Rat.not_lt.2 (Rat.le_of_lt h1)),if_pos h1];decide
 have hqv:=Qp hql;have HOF:=jq (fun W hW=>Vj q W hW (by omega));have hz1:(Qg ((val q:Int):Rat)).Sz 201:=by rw[Jq];exact⟨Qd hqv,by simp⟩
 have HMU:=jq (fun W hW=>YT (Qg ((val q:Int):Rat)) f W hW (hz1.more (by omega)) (hfz.more (by omega)));rw[Qh] at HMU
 have hz2:(Qg (((val q:Int):Rat)*f.rat)).Sz 1000:=by
  have:=Xe (ZeW (hz1.more (show 201<=201 by omega)) (hfz.more (show 200<=201 by omega)) (by omega))
  rw[Qh] at this;exact this.more (by omega)
 have HWH:=jq (ZdK (Qg (((val q:Int):Rat)*f.rat)) (hz2.more (by omega)));rw[Qh] at HWH;have H:=jq (show Kp w [(w.1.size+1,#[.string ⟨#[]⟩,.string ⟨#[]⟩],26),(w.1.size,#[.string ⟨f.n.toArray⟩,.string ⟨f.d.toArray⟩],26)] ((w.alloc (.cells #[.string ⟨f.n.toArray⟩,.string ⟨f.d.toArray⟩] 26)).alloc (.cells #[.string ⟨#[]⟩,.string ⟨#[]⟩] 26)) from((Kp.start hp).new w.1.size rfl _ _).new (w.1.size+1) (by simp) _ _);generalize QV f.rat 0=z1 at*;generalize QO (val q)=z0 at*;generalize Qg (((val q:Int):Rat)*f.rat-((QA (((val q:Int):Rat)*f.rat):Int):Rat))=pt at*;generalize Qa (QA (((val q:Int):Rat)*f.rat))=tn at*;generalize Qg (((val q:Int):Rat)*f.rat)=fm at*;generalize Qg ((val q:Int):Rat)=fq at*;have hs0i:¬z0<0:=by simpa using hs0
 have hs1i:¬z1<=0:=by simpa using hs1
 clear hp hq hql hf hfz h0 h1 hqv hz1 hz2;unfold Qy S at*
 go_enter Tryz.func46,Tryz.ntmps46
 go_wp2_with fail
 generalize ((w.alloc (.cells #[.string ⟨f.n.toArray⟩,.string ⟨f.d.toArray⟩] 26)).alloc (.cells #[.string ⟨#[]⟩,.string ⟨#[]⟩] 26))=W0 at*;refine(HIC.out _ H.out.pw).mono ?_;rintro e w1 ⟨rfl,hb1⟩;have H1:=jq (H.out.here hb1);clear hb1 H;have x0:=H1.out.c 1 0 rfl rfl;have x1:=H1.out.c 1 1 rfl rfl;go_wp2_with fail
 refine(HFC.out _ H1.out.po).mono ?_;rintro e w2 ⟨rfl,hb2⟩;have H2:=jq (H1.out.here hb2);clear hb2 H1 x0 x1;go_wp2_with fail
 refine(HCM.out _).mono ?_;rintro e w3 ⟨rfl,hb3⟩;have H3:=jq (H2.out.here hb3);clear hb3 H2;have x0:=H3.out.c 1 0 rfl rfl;have x1:=H3.out.c 1 1 rfl rfl;go_wp2_with fail
 refine(HSG.out _ H3.out.pw).mono ?_;rintro e w4 ⟨rfl,hb4⟩;have H4:=jq (H3.out.here hb4);clear hb4 H3 x0 x1;go_upto_region 5 with (fail)
 have HRT:=jq (show ∀X bs i,Kp w bs X->bs[i]?=some (w.1.size,#[.string ⟨f.n.toArray⟩,.string ⟨f.d.toArray⟩],26)->X.cell? ⟨w.1.size,0,none⟩=some (.string ⟨f.n.toArray⟩)/\X.cell? ⟨w.1.size,1,none⟩=some (.string ⟨f.d.toArray⟩) from fun X bs i h hb=>⟨h.c i 0 hb rfl,h.c i 1 hb rfl⟩);have HPA:=jq ((H4.out.new w4.1.size rfl #[.string ⟨#[]⟩,.string ⟨#[]⟩] 26).drew)
 go_cut [7,8] (fun s p wc=>s=.string ⟨tn.toArray⟩/\∃P8,p=.pointer (some ⟨P8,0,none⟩)/\Hid (Kp w ((P8,#[.string ⟨pt.n.toArray⟩,.string ⟨pt.d.toArray⟩],26)::[(w.1.size+1,#[.string ⟨#[]⟩,.string ⟨#[]⟩],26),(w.1.size,#[.string ⟨f.n.toArray⟩,.string ⟨f.d.toArray⟩],26)]) wc))
 case first=>
  obtain⟨s00,s01⟩:=HRT.out _ _ 1 H4.out rfl
  have s0a:=HRT.out _ _ 2 HPA.out rfl
  go_region_held3 (fun X=>X.cell? ⟨w.1.size,0,none⟩=some (.string ⟨f.n.toArray⟩)/\X.cell? ⟨w.1.size,1,none⟩=some (.string ⟨f.d.toArray⟩))
   (first
     |with_reducible exact s4
     |with_reducible exact s3a
     |with_reducible exact s3
     |with_reducible exact s2a
     |with_reducible exact s2
     |with_reducible exact s1a
     |with_reducible exact s1
     |with_reducible exact s0a
     |go_keep)
   (first
     |(go_at_call 19;first
        |(refine(HOF.out _ H4.out.drew.po).mono ?_;rintro e y1 ⟨rfl,hy⟩;try unfold Qy S
          have g1:=H4.out.drew.here hy;have s1:=HRT.out _ _ 1 g1 rfl;have g1a:=g1.new y1.1.size rfl #[.string ⟨#[]⟩,.string ⟨#[]⟩] 26;have s1a:=HRT.out _ _ 2 g1a rfl)
        |(refine(HOF.out _ HPA.out.po).mono ?_;rintro e y1 ⟨rfl,hy⟩;try unfold Qy S
          have g1:=HPA.out.here hy;have s1:=HRT.out _ _ 2 g1 rfl))
     |(go_at_call 42;first
        |(refine(HMU.out _ g1.po).mono ?_;rintro e y2 ⟨rfl,hy⟩;try unfold Qy S
          have g2:=g1.here hy)
        |(refine(HMU.out _ g1a.po).mono ?_;rintro e y2 ⟨rfl,hy⟩;try unfold Qy S
          have g2:=g1a.here hy)
       first
        |(have s2:=HRT.out _ _ 1 g2 rfl
          have g2a:=g2.new y2.1.size rfl #[.string ⟨#[]⟩,.string ⟨#[]⟩] 26;have s2a:=HRT.out _ _ 2 g2a rfl)
        |(have s2:=HRT.out _ _ 2 g2 rfl))
     |(go_at_call 95;first
        |(refine(HWH.out _ g2.pw).mono ?_;rintro e y3 ⟨rfl,hy⟩;try unfold Qy S
          have g3:=g2.here hy)
        |(refine(HWH.out _ g2a.pw).mono ?_;rintro e y3 ⟨rfl,hy⟩;try unfold Qy S
          have g3:=g2a.here hy)
       first
        |(have s3:=HRT.out _ _ 1 g3 rfl
          have g3a:=g3.new y3.1.size rfl #[.string ⟨#[]⟩,.string ⟨#[]⟩] 26;have s3a:=HRT.out _ _ 2 g3a rfl;have g4:=(g3a.set 0 0 rfl (.string ⟨pt.n.toArray⟩)).set 0 1 rfl (.string ⟨pt.d.toArray⟩);have s4:=HRT.out _ _ 2 g4 rfl)
        |(have s3:=HRT.out _ _ 2 g3 rfl
          have n0:=g3.c 0 0 rfl rfl;have n1:=g3.c 0 1 rfl rfl;have f0:=g3.f 0 0 rfl;have f1:=g3.f 0 1 rfl;have g4:=(g3.set 0 0 rfl (.string ⟨pt.n.toArray⟩)).set 0 1 rfl (.string ⟨pt.d.toArray⟩);have s4:=HRT.out _ _ 2 g4 rfl)))
  all_goals
   go_wp2_with fail
   go_meet
   first
    |exact⟨rfl,_,rfl,g4⟩
    |exact⟨rfl,_,rfl,g3.new _ rfl _ _⟩
 case rest=>
 obtain⟨rfl,P8,rfl,H5⟩:=hcut
 clear H4 HPA HRT;have k0:=H5.out.c 0 0 rfl rfl;have k1:=H5.out.c 0 1 rfl rfl;have n0:=H5.out.c 1 0 rfl rfl;have n1:=H5.out.c 1 1 rfl rfl;have f0:=H5.out.f 1 0 rfl;have f1:=H5.out.f 1 1 rfl;have HE:=jq (((H5.out.set 1 0 rfl (.string ⟨pt.n.toArray⟩)).set 1 1 rfl (.string ⟨pt.d.toArray⟩)).drew);obtain⟨r0,r1⟩:_/\_:=⟨HE.out.c 0 0 rfl rfl,HE.out.c 0 1 rfl rfl⟩
 have m0:=HE.out.c 1 0 rfl rfl;have m1:=HE.out.c 1 1 rfl rfl;go_upto_region 6 with (fail)
 go_region_held3 (fun X=>X.cell? ⟨P8,0,none⟩=some (.string ⟨pt.n.toArray⟩)/\X.cell? ⟨P8,1,none⟩=some (.string ⟨pt.d.toArray⟩))
  (first
    |with_reducible exact⟨r0,r1⟩
    |go_keep)
  (fail)
 all_goals
  go_wp2_with fail
  refine bodyPost_ret (v:=.tuple #[.string ⟨tn.toArray⟩,.agg #[.string ⟨pt.n.toArray⟩,.string ⟨pt.d.toArray⟩],.int .i64 0]) (by simp[results,Tryz.results46,go_sem,m0,m1]) rfl ?_;rw[HPO.out];exact⟨rfl,HE.out.bl⟩
end
end Go.Proofs.YtmamnnaiogidaaaGreatDoor
