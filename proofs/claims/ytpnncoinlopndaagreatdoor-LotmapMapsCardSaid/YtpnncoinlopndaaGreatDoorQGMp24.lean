/- . -/
import Derived.Test.YtpnncoinlopndaaGreatDoorQGMp25
import Derived.Test.YtpnncoinlopndaaGreatDoorQGMp42
set_option maxRecDepth 20000
set_option maxHeartbeats 2000000
namespace Go.Proofs.YtpnncoinlopndaaGreatDoor
open Go.Lib renaming hid→jq
section
open Go.RowKit Go.Shelf
attribute [local go_sem ↓] Go.wp_at_zero Go.wp_at_succ
theorem Zju(n:Int)(hn:n≠0):∃l b,Qa n=l++[b]/\48<=b.toNat/\b.toNat<=57/\b.toNat%2=n.natAbs%2:=by
 rw[YH,XO n.natAbs (by omega)];refine⟨(if n<0 then[45] else[])++QN (n.natAbs/10),UInt8.ofNat (48+n.natAbs%10),by simp,?_⟩
 have h:(UInt8.ofNat (48+n.natAbs%10)).toNat=48+n.natAbs%10:=by
  rw[UInt8.toNat_ofNat'];omega
 rw[h];omega
theorem ZnA(n:Int):decide (n.fmod 2=0)=decide (n.natAbs%2=0):=by
 rw[Bool.eq_iff_iff,decide_eq_true_eq,decide_eq_true_eq];have h1:=Int.mul_fdiv_add_fmod n 2;have h2:=Int.fmod_nonneg_of_pos n (show(0:Int)<2 by omega);have h3:=Int.fmod_lt_of_pos n (show(0:Int)<2 by omega);omega
theorem ZhO(a:List UInt8)(w:World)(ha:a.length<=1000000000):Calls Tryz.prog 211 #[S a] w fun e w'=>e=.returned (.bool (decide ((val a).fmod 2=0)))/\w=w':=by
 have HC:=jq (fun W=>Ya a W ha)
 have hl:(Qa (val a)).length<=1000000001:=by
  have:=Qd (n:=val a) (L:=a.length) (Qz (Nat.le_refl _))
  omega
 rw[ZnA];clear ha
 by_cases h0:val a=0
 ·rw[h0] at HC ⊢;rw[show Qa 0=[] from rfl] at HC;clear h0 hl;unfold S at*
  go_enter Tryz.func211,Tryz.ntmps211
  go_wp2_with fail
  refine(HC.out _).mono ?_;rintro e w1 ⟨rfl,rfl⟩;go_wp2_with fail
  first|go_ret|skip
  exact⟨rfl,rfl⟩
 ·obtain⟨l,b,hb,h1,h2,h3⟩:=Zju _ h0
  rw[hb] at HC hl;have hk:(l++[b])[l.length]?=some b:=by simp
  have hln:(l++[b]).length=l.length+1:=by simp
  have hsz:(⟨(l++[b]).toArray⟩:ByteArray).size=l.length+1:=by rw[Qs,hln]
  have hks:l.length<(⟨(l++[b]).toArray⟩:ByteArray).size:=by omega
  have hbk:(⟨(l++[b]).toArray⟩:ByteArray)[l.length]=b:=Zas hk hks;have hne:((l++[b])==[])=false:=by simp
  have hem:(l++[b]).isEmpty=false:=by simp
  rw[<-h3];clear h0 h3 hk;rw[hln] at hl;generalize l++[b]=t at*;generalize l.length=k at*;unfold S at*
  by_cases hp:b.toNat%2=0
  ·have hpar:((b.toNat:Int)-48)%2=0:=by omega
   rw[decide_eq_true hp];clear hp hln;go_enter Tryz.func211,Tryz.ntmps211
   go_wp2_with fail
   refine(HC.out _).mono ?_;rintro e w1 ⟨rfl,rfl⟩;go_wp2_with fail
   first|go_ret|skip
   exact⟨rfl,rfl⟩
  ·have hpar:((b.toNat:Int)-48)%2=1:=by omega
   rw[decide_eq_false hp];clear hp hln;go_enter Tryz.func211,Tryz.ntmps211
   go_wp2_with fail
   refine(HC.out _).mono ?_;rintro e w1 ⟨rfl,rfl⟩;go_wp2_with fail
   first|go_ret|skip
   exact⟨rfl,rfl⟩
theorem Zlg(q:Rat):Xe (q-((QK q:Int):Rat)) 0=if Yr q=0 then 0 else 1:=by
 have h:=Zcw q
 by_cases h0:Yr q=0
 ·rw[if_pos h0,(Zf2 q).1 h0];rfl
 ·rw[if_neg h0];unfold Xe;have h1:q-((QK q:Int):Rat)≠0:=fun e=>h0 ((Zf2 q).2 e)
  rw[if_neg (Rat.not_lt.2 h),if_pos (Rat.lt_of_le_of_ne h (Ne.symm h1))]
theorem Zlh(q:Rat):Xe (q-((QK q:Int):Rat)) (Rat.divInt 1 2)=Qy (Yr q+Yr q-q.den):=by
 rw[ZaI,Zcp _ _ (by have:=q.den_pos;omega) (by omega)]
 congr 1
 omega
theorem Zec(f:Fr)(hf:f.Sz 5000):Xb 180 #[QC f,.int .i64 1] (S (Qa (JY f.rat))):=by
 intro w hp;have H:=jq ((Kp.start hp).new w.1.size rfl #[.string ⟨f.n.toArray⟩,.string ⟨f.d.toArray⟩] 26);have hFL:=fun W=>JX f W (hf.more (by omega))
 obtain⟨K,hK⟩:∃K:Nat,K=5000:=⟨_,rfl⟩
 have hsz:RB K f.rat:=by rw[<-hK] at hf;exact Zae hf (by omega)
 have hlo:=Ze5 hsz (by omega);have l1:=Qd hlo;have z1:(Qf ((QK f.rat:Int):Rat)).Sz (K+1+1):=QF (JP hlo (by omega));have z2:(Qf (f.rat-((QK f.rat:Int):Rat))).Sz (K+1):=QF (Zih hsz);have z3:(Qf (Rat.divInt 1 2)).Sz (1+1):=QF (by unfold RB;decide+kernel);have z4:(Qf ((0:Int):Rat)).Sz (1+1):=QF (by unfold RB;decide+kernel);have HFL:=jq hFL;have HO:=jq (fun W=>YT (Qa (QK f.rat)) W (by omega));rw[Qc] at HO;have HSB:=jq (fun W=>ZbT f (Qf ((QK f.rat:Int):Rat)) W (hf.more (by omega)) (z1.more (by omega)));rw[Qj] at HSB;have HZ:=jq (fun W=>YT [] W (by simp));rw[XK] at HZ;have HC0:=jq (fun W=>Xd (Qf (f.rat-((QK f.rat:Int):Rat))) (Qf ((0:Int):Rat)) W (z2.more (by omega)) (z4.more (by omega)));rw[Qj,Qj,show((0:Int):Rat)=0 from rfl,Zlg] at HC0;have HAD:=jq (fun W=>VH (Qa (QK f.rat)) [49] W (by omega) (by simp));rw[Qc,Yn] at HAD;have HNW:=jq (fun W=>ZdQ ⟨[49],[50]⟩ W ⟨by simp,by simp⟩);rw[show ZcP ⟨[49],[50]⟩=(Qf (Rat.divInt 1 2),0) by decide+kernel] at HNW;have HCH:=jq (fun W=>Xd (Qf (f.rat-((QK f.rat:Int):Rat))) (Qf (Rat.divInt 1 2)) W (z2.more (by omega)) (z3.more (by omega)));rw[Qj,Qj,Zlh] at HCH;have HCN:=jq (fun W=>Xd f (Qf ((0:Int):Rat)) W (hf.more (by omega)) (z4.more (by omega)));have HEV:=jq (fun W=>ZhO (Qa (QK f.rat)) W (by omega));rw[Qc] at HEV;have HRC:=jq (ZfP f.rat);clear hFL hf hp hK hsz hlo l1 z1 z2 z3 z4;rw[show((0:Int):Rat)=0 from rfl] at HZ HCN;generalize Xe f.rat (Qf 0).rat=sn at*;generalize Qf (f.rat-((QK f.rat:Int):Rat))=rest at*;generalize Qf ((QK f.rat:Int):Rat)=ffl at*;generalize Qf (Rat.divInt 1 2)=half at*;generalize Qf 0=zero at*;generalize f.rat=q at*;obtain⟨tf,htf⟩:∃t,t=Qa (QK q):=⟨_,rfl⟩
 have HTF:=jq htf;rw[<-htf] at HFL HO HAD HEV;clear htf;have x0:(w.alloc (.cells #[.string ⟨f.n.toArray⟩,.string ⟨f.d.toArray⟩] 26)).cell? ⟨w.1.size,0,none⟩=some (.string ⟨f.n.toArray⟩):=H.out.c 0 0 rfl rfl;have x1:(w.alloc (.cells #[.string ⟨f.n.toArray⟩,.string ⟨f.d.toArray⟩] 26)).cell? ⟨w.1.size,1,none⟩=some (.string ⟨f.d.toArray⟩):=H.out.c 0 1 rfl rfl;unfold Qg Qh Qq ZaE QC at*
 unfold S at*
 go_enter Tryz.func180,Tryz.ntmps180
 go_wp2_with fail
 generalize w.alloc _=W at*;refine(HFL.out _).mono ?_;rintro e w1 ⟨rfl,hb⟩;replace H:=jq (H.out.here hb);clear hb x0 x1;go_upto_region 2 with (fail)
 go_cut [6] (fun u wc=>∃p:Nat,u=.pointer (some ⟨p,0,none⟩)/\Hid (Kp w [(p,#[.string ⟨rest.n.toArray⟩,.string ⟨rest.d.toArray⟩],26),(w.1.size,#[.string ⟨f.n.toArray⟩,.string ⟨f.d.toArray⟩],26)] wc))
 case first=>
  have hS:=jq (fun X (h:Bz w1 X)=>(show X.cell? ⟨w.1.size,0,none⟩=some (.string ⟨f.n.toArray⟩)/\X.cell? ⟨w.1.size,1,none⟩=some (.string ⟨f.d.toArray⟩) from⟨(H.out.here h).c 0 0 rfl rfl,(H.out.here h).c 0 1 rfl rfl⟩))
  go_region_held3 (fun w'=>w'.cell? ⟨w.1.size,0,none⟩=some (.string ⟨f.n.toArray⟩)/\w'.cell? ⟨w.1.size,1,none⟩=some (.string ⟨f.d.toArray⟩))
   (first|(exact hS.out _ (by repeat' (first|assumption|exact Bz.refl _|refine Bz.drew ?_|refine Bz.alloc ?_ _|refine Bz.set ?_ (by first|assumption|exact Nat.le_refl _|exact Bz.size (by assumption)) _ _)))|go_keep)
   (first
     |(go_at_call 49;refine(HO.out _).mono ?_;rintro e v1 ⟨rfl,hb1⟩;(try unfold QC S);have hz1:Bz w1 v1:=Bz.call (by repeat' (first|assumption|exact Bz.refl _|refine Bz.drew ?_|refine Bz.alloc ?_ _|refine Bz.set ?_ (by first|assumption|exact Nat.le_refl _|exact Bz.size (by assumption)) _ _)) hb1
       first|(have q1:BlkB v1 w1.1.size #[.string ⟨#[]⟩,.string ⟨#[]⟩] 26:=BlkB.here (w:=(w1.alloc (.cells #[.string ⟨#[]⟩,.string ⟨#[]⟩] 26)).drew) (heap_alloc_new w1 _) hb1)|skip)
     |(go_at_call 64;refine(HSB.out _).mono ?_;rintro e v2 ⟨rfl,hb2⟩;(try unfold QC S);have hz2:Bz w1 v2:=Bz.call (by repeat' (first|assumption|exact Bz.refl _|refine Bz.drew ?_|refine Bz.alloc ?_ _|refine Bz.set ?_ (by first|assumption|exact Nat.le_refl _|exact Bz.size (by assumption)) _ _)) hb2
       first
        |(have q2:=q1.here hb2;have n0:=q2.cell 0 rfl;have n1:=q2.cell 1 rfl;have g0:=q2.frozen 0;have g1:=q2.frozen 1)
        |(have q2:BlkB v2 v1.1.size #[.string ⟨#[]⟩,.string ⟨#[]⟩] 26:=BlkB.here (w:=v1.alloc (.cells #[.string ⟨#[]⟩,.string ⟨#[]⟩] 26)) (heap_alloc_new v1 _) hb2;have n0:=q2.cell 0 rfl;have n1:=q2.cell 1 rfl;have g0:=q2.frozen 0;have g1:=q2.frozen 1)
        |skip))
  all_goals
   go_wp2_with fail
   go_meet
   first
    |exact⟨_,rfl,(H.out.join hz2 q2 (by first|exact Nat.le_refl _|exact hz1.size)).set2 _ _⟩
    |exact⟨_,rfl,(H.out.here hz2).new _ rfl _ _⟩
    |exact⟨_,rfl,((H.out.here hz2).new _ rfl _ _).set2 _ _⟩
 case rest=>
 clear H HO HSB HFL;obtain⟨p,rfl,H⟩:=hcut
 go_wp2_with fail
 refine(HZ.out _).mono ?_;rintro e w3 ⟨rfl,hb⟩;replace H:=jq ((H.out.here hb).new w3.1.size rfl #[.string ⟨zero.n.toArray⟩,.string ⟨zero.d.toArray⟩] 26);clear hb HZ;go_upto_region 4 with (fail)
 generalize w3.alloc _=W3 at*;generalize w3.1.size=pz at*;have c0:=H.out.c 0 0 rfl rfl;have c1:=H.out.c 0 1 rfl rfl;have d0:=H.out.c 1 0 rfl rfl;have d1:=H.out.c 1 1 rfl rfl
 rcases HRC.out with ⟨hr,hres⟩|⟨hr,hs,hres⟩|⟨hr,hs,hres⟩|⟨hr,hs,hres⟩
 ·rw[if_pos hr] at HC0;have HRES:=jq hres;clear hr hres HRC;go_wp2_with fail
  refine(HC0.out _).mono ?_;rintro e w4 ⟨rfl,hb⟩;go_wp2_with fail
  first|go_ret|skip
  rw[HRES.out,<-HTF.out];exact⟨rfl,(H.out.here hb).bl⟩
 all_goals
  rw[if_neg hr] at HC0;rw[hs] at HCH;have HRES:=jq hres;clear hr hs hres HRC;go_wp2_with fail
  refine(HC0.out _).mono ?_;rintro e w4 ⟨rfl,hb⟩;replace H:=jq (H.out.here hb);clear hb c0 c1 d0 d1 HC0;go_wp2_with fail
  refine(HAD.out _).mono ?_;rintro e w5 ⟨rfl,hb⟩;replace H:=jq (H.out.here hb);clear hb HAD;go_wp2_with fail
  refine(HNW.out _).mono ?_;rintro e w6 ⟨rfl,hb⟩;replace H:=jq ((H.out.here hb).new w6.1.size rfl #[.string ⟨half.n.toArray⟩,.string ⟨half.d.toArray⟩] 26);clear hb HNW;go_upto_region 8 with (fail)
  generalize w6.alloc _=W6 at*;generalize w6.1.size=ph at*;have c0:=H.out.c 0 0 rfl rfl;have c1:=H.out.c 0 1 rfl rfl;have d0:=H.out.c 2 0 rfl rfl;have d1:=H.out.c 2 1 rfl rfl;go_wp2_with fail
  refine(HCH.out _).mono ?_;rintro e w7 ⟨rfl,hb⟩;replace H:=jq (H.out.here hb);clear hb c0 c1 d0 d1 HCH;have c0:=H.out.c 1 0 rfl rfl;have c1:=H.out.c 1 1 rfl rfl;have d0:=H.out.c 3 0 rfl rfl;have d1:=H.out.c 3 1 rfl rfl;go_wp2_with fail
  refine(HCN.out _).mono ?_;rintro e w8 ⟨rfl,hb⟩;replace H:=jq (H.out.here hb);clear hb c0 c1 d0 d1 HCN
 ·go_wp2_with fail
  first|go_ret|skip
  rw[HRES.out,<-HTF.out];exact⟨rfl,H.out.bl⟩
 ·by_cases he:(QK q).fmod 2=0
  ·rw[if_pos he] at HRES;rw[show decide ((QK q).fmod 2=0)=true by simp[he]] at HEV;clear he;go_wp2_with fail
   refine(HEV.out _).mono ?_;rintro e w9 ⟨rfl,rfl⟩;go_wp2_with fail
   first|go_ret|skip
   rw[HRES.out,<-HTF.out];exact⟨rfl,H.out.bl⟩
  ·rw[if_neg he] at HRES;rw[show decide ((QK q).fmod 2=0)=false by simp[he]] at HEV;clear he;go_wp2_with fail
   refine(HEV.out _).mono ?_;rintro e w9 ⟨rfl,rfl⟩;go_wp2_with fail
   first|go_ret|skip
   rw[HRES.out];exact⟨rfl,H.out.bl⟩
 ·go_wp2_with fail
  first|go_ret|skip
  rw[HRES.out];exact⟨rfl,H.out.bl⟩
theorem ZhP(w:World):Calls Tryz.prog 179 #[.int .i64 1] w fun e w'=>e=.returned (.bool true)/\w=w':=by
 go_enter Tryz.func179,Tryz.ntmps179
 go_wp2_with fail
 first|go_ret|skip
 exact⟨rfl,rfl⟩
theorem ZcE(f:Fr)(hf:f.Sz 5000):Xb 136 #[QC f,.int .i64 1] (.tuple #[S (Qa (JY f.rat)),.int .i64 0]):=by
 intro w hp;have H:=jq ((Kp.start hp).new w.1.size rfl #[.string ⟨f.n.toArray⟩,.string ⟨f.d.toArray⟩] 26);have HM:=jq ZhP;have HR:=jq (Zec f hf);have x0:(w.alloc (.cells #[.string ⟨f.n.toArray⟩,.string ⟨f.d.toArray⟩] 26)).cell? ⟨w.1.size,0,none⟩=some (.string ⟨f.n.toArray⟩):=H.out.c 0 0 rfl rfl;have x1:(w.alloc (.cells #[.string ⟨f.n.toArray⟩,.string ⟨f.d.toArray⟩] 26)).cell? ⟨w.1.size,1,none⟩=some (.string ⟨f.d.toArray⟩):=H.out.c 0 1 rfl rfl;generalize Qa (JY f.rat)=res at*;clear hf hp;unfold QC at*
 unfold S at*
 go_enter Tryz.func136,Tryz.ntmps136
 go_wp2_with fail
 generalize w.alloc _=W at*;refine(HM.out _).mono ?_;rintro e w1 ⟨rfl,rfl⟩;go_wp2_with fail
 refine(HR.out _ H.out.pw).mono ?_;rintro e w2 ⟨rfl,hb⟩;go_wp2_with fail
 first|go_ret2|skip
 exact⟨rfl,(H.out.here hb).bl⟩
end
end Go.Proofs.YtpnncoinlopndaaGreatDoor
