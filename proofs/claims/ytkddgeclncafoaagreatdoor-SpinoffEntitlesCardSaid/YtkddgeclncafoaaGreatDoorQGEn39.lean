/- D1, AL1, Id. -/
import Derived.Test.YtkddgeclncafoaaGreatDoorQGEn36
import Derived.Test.YtkddgeclncafoaaGreatDoorQGEn32
set_option maxRecDepth 20000
set_option maxHeartbeats 2000000
namespace Go.Proofs.YtkddgeclncafoaaGreatDoor
open Go.Lib renaming hid→jq
open Go.RowKit Go.Shelf
section
theorem ZiU(f:Fr)(hf:f.Sz 40000):XB 62 #[Qq f] (.tuple #[S (Qa f.rat.num),S (Qa f.rat.den)]):=by
 intro w hp;have H:=jq ((Kp.start hp).new w.1.size rfl #[.string ⟨f.n.toArray⟩,.string ⟨f.d.toArray⟩] 26);have HPA:=jq (fun W=>Ve f W (by have:=hf.2;omega));have HRD:=jq (fun W hp=>ZbX f.n f.dt W hp (by have:=hf.1;omega) (by have:=Fr.dt_len hf.2 (by omega);omega) (by rw[Fr.val_dt];exact f.dv_ne));rw[Fr.val_dt,show Rat.divInt (val f.n) f.dv=f.rat from rfl] at HRD;generalize Qa f.rat.num=qn at*;generalize Qa (f.rat.den:Int)=qd at*;have x0:(w.alloc (.cells #[.string ⟨f.n.toArray⟩,.string ⟨f.d.toArray⟩] 26)).cell? ⟨w.1.size,0,none⟩=some (.string ⟨f.n.toArray⟩):=H.out.c 0 0 rfl rfl;have x1:(w.alloc (.cells #[.string ⟨f.n.toArray⟩,.string ⟨f.d.toArray⟩] 26)).cell? ⟨w.1.size,1,none⟩=some (.string ⟨f.d.toArray⟩):=H.out.c 0 1 rfl rfl;clear hf hp;unfold Qq at*
 unfold S at*
 go_enter Tryz.func62,Tryz.ntmps62
 go_wp2_with fail
 generalize w.alloc _=W at*;refine(HPA.out _).mono ?_;rintro e w1 ⟨rfl,hb⟩;unfold S;replace H:=jq (H.out.here hb);clear hb x0 x1;go_wp2_with fail
 refine(HRD.out _ H.out.po).mono ?_;rintro e w2 ⟨rfl,hb⟩;unfold S;replace H:=jq (H.out.here hb);go_wp2_with fail
 first|go_ret2|skip
 exact⟨rfl,H.out.bl⟩
theorem ZiV(f:Fr)(hf:f.Sz 40000):XB 94 #[Qq f] (S (Qa (QW f.rat))):=by
 intro w hp;have H:=jq ((Kp.start hp).new w.1.size rfl #[.string ⟨f.n.toArray⟩,.string ⟨f.d.toArray⟩] 26);have HPA:=jq (fun W=>Ve f W (by have:=hf.2;omega));have hdv:val f.dt≠0:=by rw[Fr.val_dt];exact f.dv_ne
 have HDV:=jq (fun W hp=>(Zao f.n f.dt W hp (by have:=hf.1;omega) (by have:=Fr.dt_len hf.2 (by omega);omega)).mono fun e w' h=>Va hdv h);have HF:=jq (show Qa ((val f.n).fdiv (val f.dt))=Qa (QW f.rat) by rw[Fr.val_dt,Za1 _ _ f.dv_ne];rfl);rw[HF.out] at HDV;generalize Qa (QW f.rat)=res at*;have x0:(w.alloc (.cells #[.string ⟨f.n.toArray⟩,.string ⟨f.d.toArray⟩] 26)).cell? ⟨w.1.size,0,none⟩=some (.string ⟨f.n.toArray⟩):=H.out.c 0 0 rfl rfl;have x1:(w.alloc (.cells #[.string ⟨f.n.toArray⟩,.string ⟨f.d.toArray⟩] 26)).cell? ⟨w.1.size,1,none⟩=some (.string ⟨f.d.toArray⟩):=H.out.c 0 1 rfl rfl;clear hf hp hdv HF;unfold Qq at*
 unfold S at*
 go_enter Tryz.func94,Tryz.ntmps94
 go_wp2_with fail
 generalize w.alloc _=W at*;refine(HPA.out _).mono ?_;rintro e w1 ⟨rfl,hb⟩;unfold S;replace H:=jq (H.out.here hb);clear hb x0 x1;go_wp2_with fail
 refine(HDV.out _ H.out.po).mono ?_;rintro e w2 ⟨rfl,hb⟩;replace H:=jq (H.out.here hb);go_wp2_with fail
 first|go_ret|skip
 exact⟨rfl,H.out.bl⟩
theorem Yt(a:List UInt8)(ha:a.length<=1000000000):XB 48 #[S a] (.int .i64 (if a=Qa (val a) then 0 else 1)):=by
 intro w hp;have HC:=jq (Zay a w ha);rw[Zbr] at HC;have HEQ:=jq (show ∀t:List UInt8,(if a=t then(0:Int) else 1)=if(a==t)=true then 0 else 1 by intro t;by_cases h:a=t<;>simp[h]);rw[HEQ.out];clear HEQ ha;generalize Qa (val a)=t at*;unfold S at*
 cases h:(a==t)
 all_goals
  go_enter Tryz.func48,Tryz.ntmps48
  go_wp2_with fail
  refine HC.out.mono ?_;rintro e w1 ⟨rfl,hb⟩;go_wp2_with fail
  first|go_ret|skip
  exact⟨rfl,hb⟩
theorem Zia:val [50]=2:=by decide+kernel
theorem ZkB(a:List UInt8)(ha:a.length<=100000):XB 64 #[S a] (.bool (decide ((val a).fmod 2=0))):=by
 intro w hp;have HDV:=jq ((Zao a [50] w hp.pow ha (by simp)).mono fun e w' h=>Va (by rw[Zia];omega) h);rw[Zia] at HDV
 have HE:=jq (show(Qa ((val a).fmod 2)==[])=decide ((val a).fmod 2=0) by
  rw[Bool.eq_iff_iff];simp only[beq_iff_eq,decide_eq_true_eq];exact VW)
 generalize Qa ((val a).fmod 2)=t at*;generalize decide ((val a).fmod 2=0)=bb at*;clear ha hp;unfold S at*
 go_enter Tryz.func64,Tryz.ntmps64
 go_wp2_with fail
 refine HDV.out.mono ?_;rintro e w1 ⟨rfl,hb⟩;go_wp2_with fail
 first|go_ret|skip
 exact⟨Qe ((show t.isEmpty=(t==[]) by cases t<;>rfl).trans HE.out),hb⟩
theorem ZfQ(q:Rat):(VE q=0/\rnd q=QW q)\/(VE q≠0/\Qt (VE q+VE q-q.den)= -1/\rnd q=QW q)\/(VE q≠0/\Qt (VE q+VE q-q.den)=0/\rnd q=if(QW q).fmod 2=0 then QW q else QW q+1)\/(VE q≠0/\Qt (VE q+VE q-q.den)=1/\rnd q=QW q+1):=by
 have hb:=XT q;unfold rnd Qt
 by_cases h0:VE q=0
 ·exact .inl ⟨h0,by rw[if_neg];omega⟩
 ·rcases Int.lt_trichotomy (2*VE q) q.den with h|h|h
  ·exact .inr (.inl ⟨h0,by rw[if_pos (by omega)],by rw[if_neg];omega⟩)
  ·refine .inr (.inr (.inl ⟨h0,by rw[if_neg (by omega),if_neg (by omega)],?_⟩))
   by_cases he:(QW q).fmod 2=0
   ·rw[if_pos he,if_neg];omega
   ·rw[if_neg he,if_pos (.inr ⟨h,he⟩)]
  ·exact .inr (.inr (.inr ⟨h0,by rw[if_neg (by omega),if_pos (by omega)],by rw[if_pos (.inl h)]⟩))
theorem ZiW(f:Fr)(hf:f.Sz 20000):XB 23 #[Qq f,.int .i64 1] (.tuple #[S (Qa (rnd f.rat)),.int .i64 0]):=by
 intro w hp;have H:=jq ((Kp.start hp).new w.1.size rfl #[.string ⟨f.n.toArray⟩,.string ⟨f.d.toArray⟩] 26);have HPA:=jq (ZiU f (hf.more (by omega)))
 have hsz:f.rat.num.natAbs<10^20000/\f.rat.den<10^20000:=by
  obtain⟨K,hK⟩:∃K:Nat,K=20000:=⟨_,rfl⟩
  rw[<-hK] at hf ⊢;exact Zcq hf (by omega)
 have hd0:(f.rat.den:Int)≠0:=by have:=f.rat.den_nz;omega
 have hbd:=XT f.rat;have hlo:=Zeq f.rat;have HRC:=jq (ZfQ f.rat);generalize hq:f.rat=q at*;obtain⟨K,hK⟩:∃K:Nat,K=20000:=⟨_,rfl⟩
 rw[<-hK] at hsz;have hp1:10^K+1<10^(K+1):=by have:1<=10^K:=Nat.pow_pos (by omega);rw[Nat.pow_succ];have:10^1<=10^K:=Nat.pow_le_pow_right (by omega) (by omega);omega
 have hp2:10^(K+1)+1<10^(K+2):=by have:10^1<=10^(K+1):=Nat.pow_le_pow_right (by omega) (by omega);rw[Nat.pow_succ 10 (K+1)];omega
 have l1:=Qg (n:=q.num) (L:=K) hsz.1;have l2:=Qg (n:=(q.den:Int)) (L:=K) (by simpa using hsz.2);have l3:=Qg (n:=QW q) (L:=K+1) (by omega);have l4:=Qg (n:=VE q) (L:=K) (by omega);have l5:=Qg (n:=VE q+VE q) (L:=K+1) (by omega);clear hp1 hp2 hlo hsz;have HDV:=jq (fun W hp=>(Zao (Qa q.num) (Qa q.den) W hp (by omega) (by omega)).mono fun e w' h=>Va (by rw[Qc];exact hd0) h);rw[Qc,Qc,show q.num.fdiv (q.den:Int)=QW q from rfl,show q.num.fmod (q.den:Int)=VE q from rfl] at HDV;have HCN:=jq (fun W=>QR (Qa q.num) [] W (by omega) (by simp));have HAR:=jq (fun W hp=>VF (Qa (VE q)) (Qa (VE q)) W hp (by omega) (by omega));rw[Qc] at HAR;have HCM:=jq (fun W=>QR (Qa (VE q+VE q)) (Qa q.den) W (by omega) (by omega));rw[Qc,Qc] at HCM;have HAD:=jq (fun W hp=>VF (Qa (QW q)) [49] W hp (by omega) (by simp));rw[Qc,XS] at HAD;have HEV:=jq (ZkB (Qa (QW q)) (by omega));rw[Qc] at HEV
 have HNZ:=jq (show VE q≠0->(Qa (VE q)==[])=false by
  intro h;rw[Bool.eq_false_iff];intro h2;exact h (VW.1 (eq_of_beq h2)))
 clear hf hp hq hK l1 l2 l3 l4 l5 hbd hd0;have x0:(w.alloc (.cells #[.string ⟨f.n.toArray⟩,.string ⟨f.d.toArray⟩] 26)).cell? ⟨w.1.size,0,none⟩=some (.string ⟨f.n.toArray⟩):=H.out.c 0 0 rfl rfl;have x1:(w.alloc (.cells #[.string ⟨f.n.toArray⟩,.string ⟨f.d.toArray⟩] 26)).cell? ⟨w.1.size,1,none⟩=some (.string ⟨f.d.toArray⟩):=H.out.c 0 1 rfl rfl;generalize Qt (val (Qa q.num)-val [])=sn at*;unfold Qq at*
 unfold S at*
 go_enter Tryz.func23,Tryz.ntmps23
 go_wp2_with fail
 generalize w.alloc _=W at*;refine(HPA.out _ H.out.pw).mono ?_;rintro e w1 ⟨rfl,hb⟩;replace H:=jq (H.out.here hb);clear hb x0 x1;go_wp2_with fail
 refine(HDV.out _ H.out.po).mono ?_;rintro e w2 ⟨rfl,hb⟩;replace H:=jq (H.out.here hb);clear hb
 rcases HRC.out with ⟨hr,hres⟩|⟨hr,hs,hres⟩|⟨hr,hs,hres⟩|⟨hr,hs,hres⟩
 ·rw[hr] at HAR HCM ⊢;rw[show Qa (0:Int)=[] from rfl] at HAR ⊢;rw[show(0:Int)+0=0 from rfl,show Qa (0:Int)=[] from rfl] at HAR;rw[show(0:Int)+0=0 from rfl,show Qa (0:Int)=[] from rfl,show Qt (0-(q.den:Int))= -1 by unfold Qt;rw[if_pos];have:=q.den_pos;omega] at HCM;have HRES:=jq hres;clear hr hres HRC HNZ HAD;go_wp2_with fail
  refine(HCN.out _).mono ?_;rintro e w3 ⟨rfl,hb⟩;replace H:=jq (H.out.here hb);clear hb;go_wp2_with fail
  refine(HAR.out _ H.out.po).mono ?_;rintro e w4 ⟨rfl,hb⟩;replace H:=jq (H.out.here hb);clear hb
  try unfold S
  go_wp2_with fail
  refine(HCM.out _).mono ?_;rintro e w5 ⟨rfl,hb⟩;replace H:=jq (H.out.here hb);clear hb;go_wp2_with fail
  first|go_ret2|skip
  rw[HRES.out];exact⟨rfl,H.out.bl⟩
 all_goals
  have hne:=HNZ.out hr;rw[hs] at HCM;have HRES:=jq hres;clear hr hs hres HRC HNZ;go_wp2_with fail
  refine(HAD.out _ H.out.po).mono ?_;rintro e w2b ⟨rfl,hb⟩;replace H:=jq (H.out.here hb);clear hb
  try unfold S
  go_wp2_with fail
  refine(HCN.out _).mono ?_;rintro e w3 ⟨rfl,hb⟩;replace H:=jq (H.out.here hb);clear hb;go_wp2_with fail
  refine(HAR.out _ H.out.po).mono ?_;rintro e w4 ⟨rfl,hb⟩;replace H:=jq (H.out.here hb);clear hb
  try unfold S
  go_wp2_with fail
  refine(HCM.out _).mono ?_;rintro e w5 ⟨rfl,hb⟩;replace H:=jq (H.out.here hb);clear hb
 ·go_wp2_with fail
  first|go_ret2|skip
  rw[HRES.out];exact⟨rfl,H.out.bl⟩
 ·by_cases he:(QW q).fmod 2=0
  ·rw[if_pos he] at HRES;rw[show decide ((QW q).fmod 2=0)=true by simp[he]] at HEV;clear he;go_wp2_with fail
   refine(HEV.out _ H.out.pw).mono ?_;rintro e w6 ⟨rfl,hb⟩;replace H:=jq (H.out.here hb);clear hb;go_wp2_with fail
   first|go_ret2|skip
   rw[HRES.out];exact⟨rfl,H.out.bl⟩
  ·rw[if_neg he] at HRES;rw[show decide ((QW q).fmod 2=0)=false by simp[he]] at HEV;clear he;go_wp2_with fail
   refine(HEV.out _ H.out.pw).mono ?_;rintro e w6 ⟨rfl,hb⟩;replace H:=jq (H.out.here hb);clear hb;go_wp2_with fail
   first|go_ret2|skip
   rw[HRES.out];exact⟨rfl,H.out.bl⟩
 ·go_wp2_with fail
  first|go_ret2|skip
  rw[HRES.out];exact⟨rfl,H.out.bl⟩
end
section
theorem Zaz(a:List UInt8)(ha:a.length<=100000):XB 118 #[S a] (.bool (decide (val a<0))):=by
 intro w hp;have HC:=jq (QR a [] w ha (by simp));rw[Xr,Int.sub_zero] at HC;have HE:=jq (show decide (Qt (val a)<0)=decide (val a<0) by rw[Bool.eq_iff_iff,decide_eq_true_eq,decide_eq_true_eq];unfold Qt;(repeat' split)<;>omega);generalize Qt (val a)=z at*;generalize decide (val a<0)=bb at*;clear ha hp;unfold S at*
 go_enter Tryz.func118,Tryz.ntmps118
 go_wp2_with fail
 refine HC.out.mono ?_;rintro e w1 ⟨rfl,hb⟩;go_wp2_with fail
 first|go_ret|skip
 exact⟨Qe HE.out,hb⟩
theorem ZcI(A:Option Addr)(n c:Nat)(ws:List (List UInt8))(w:World)(hp:Env w)(hs:Yu w w.1.size A n ws)(hl:∀x∈ws,x.length<=50000)(hn:n<=9999):
 Calls Tryz.prog 119 #[.slice A n c] w (Qo (Qa (Qz ws)) w):=by
 have HPO:=jq (show Qo (Qa (Qz ws)) w=fun e w'=>e=.returned (S (Qa (Qz ws)))/\Below w.1.size w w' from rfl);generalize Qo (Qa (Qz ws)) w=post at*;have HS:=jq hs;have HL:=jq hl;have H0:=jq (Kp.start hp);have hnw:=hs.1;have HNW:=jq hnw;clear hs hl hp hnw;unfold S at*
 go_enter Tryz.func119,Tryz.ntmps119
 go_wp2_with fail
 go_loopw [3,8] (fun s i wr=>∃k:Nat,k<=n/\i=.int .i64 k/\s=.string ⟨(Qa (Qz (ws.take k))).toArray⟩/\Hid (Kp w [] wr)) (fun _ i _=>n-(intOf i).toNat)
 case atStart=>exact⟨0,Nat.zero_le _,rfl,rfl,H0⟩
 case round=>
  clear H0;obtain⟨k,hk,rfl,rfl,H⟩:=hrel
  by_cases hlt:k<n
  ·obtain⟨b,off,x,rfl,hb,hx,d0⟩:=(HS.out.below H.out.bl).st hlt
   have HA:=jq (VF (Qa (Qz (ws.take k))) x wr H.out.po (by have:=VM HL.out (by rw[<-HNW.out];omega) k;omega) (by have:=HL.out x (List.mem_of_getElem? hx);omega));rw[Qc,<-ZdH hx] at HA;clear hx;unfold S at HA;go_wp2_with fail
   refine HA.out.mono ?_;rintro e w1 ⟨rfl,hb1⟩
   try unfold S
   go_wp2_with fail
   go_roundw
   case rel=>exact⟨k+1,by omega,by go_num,rfl,H.out.here hb1⟩
   case measure=>simp[intOf];omega
  ·have HE:=jq (show Qa (Qz (ws.take k))=Qa (Qz ws) by rw[List.take_of_length_le (by have:=HNW.out;omega)]);rw[HE.out];go_wp2_with fail
   first|go_ret|skip
   rw[HPO.out];exact⟨rfl,H.out.bl⟩
def QN(t:List UInt8)(ws:List (List UInt8)):Int:=
 if ws=[] then 11 else if 1000<ws.length then 4 else if QH t=false\/ws.any (fun x=> !QH x||decide (val x<0))=true then 1 else if Qz ws=0 then 10 else 0
theorem ZfS(a:List UInt8)(ha:a.length<=100000):XB 117 #[S a] (.bool (!QH a||decide (val a<0))):=by
 intro w hp;have HC:=jq (Yt a (by omega));have HN:=jq (Zaz a ha);have H:=jq (Kp.start hp);generalize decide (val a<0)=bb at*;clear ha hp
 by_cases hc:a=Qa (val a)
 ·rw[if_pos hc] at HC;have HCB:=jq (show QH a=true by unfold QH;simpa using hc);rw[HCB.out];clear hc;unfold S at*
  go_enter Tryz.func117,Tryz.ntmps117
  go_wp2_with fail
  refine(HC.out _ H.out.pw).mono ?_;rintro e w1 ⟨rfl,hb⟩;replace H:=jq (H.out.here hb);clear hb;go_wp2_with fail
  refine(HN.out _ H.out.pw).mono ?_;rintro e w2 ⟨rfl,hb⟩;go_wp2_with fail
  first|go_ret|skip
  exact⟨rfl,(H.out.here hb).bl⟩
 ·rw[if_neg hc] at HC;have HCB:=jq (show QH a=false by unfold QH;simpa using hc);rw[HCB.out];clear hc;unfold S at*
  go_enter Tryz.func117,Tryz.ntmps117
  go_wp2_with fail
  refine(HC.out _ H.out.pw).mono ?_;rintro e w1 ⟨rfl,hb⟩;go_wp2_with fail
  first|go_ret|skip
  exact⟨rfl,(H.out.here hb).bl⟩
theorem ZcJ(t:List UInt8)(A:Option Addr)(n c:Nat)(ws:List (List UInt8))(w:World)(hp:Env w)(hs:Yu w w.1.size A n ws)(ht:t.length<=100000)(hl:∀x∈ws,x.length<=50000)(hn:n<=1000000000):
 Calls Tryz.prog 68 #[S t,.slice A n c] w (Qn (QN t ws) w):=by
 have HPO:=jq (show Qn (QN t ws) w=fun e w'=>e=.returned (.int .i64 (QN t ws))/\Below w.1.size w w' from rfl);have HSC:=jq (show QN t ws=if ws=[] then 11 else if 1000<ws.length then 4 else if QH t=false\/ws.any (fun x=> !QH x||decide (val x<0))=true then 1 else if Qz ws=0 then 10 else 0 from rfl);generalize Qn (QN t ws) w=post at*;generalize QN t ws=res at*;have HS:=jq hs;have HL:=jq hl;have H:=jq (Kp.start hp);have hnw:=hs.1;have HC:=jq (Yt t (by omega));have HCF:=jq (fun W (hb:Below w.1.size w W)=>ZcH 117 #[] (fun x=> !QH x||decide (val x<0)) A n c ws W (enters_of Tryz.func117 (by kernel_rfl) rfl) (fun W' x hx hb'=>ZfS x (by have:=hl x hx;omega) W' ((hp.here hb).here hb')) (hs.here hb) hn)
 have HCT:=jq (show(if t=Qa (val t) then(0:Int) else 1)=if QH t=true then 0 else 1 by
  unfold QH
  by_cases h:t=Qa (val t)
  ·rw[if_pos h,if_pos (decide_eq_true h)]
  ·rw[if_neg h,if_neg (by simpa using h)])
 rw[HCT.out] at HC;generalize QH t=ct at*;generalize ws.any (fun x=> !QH x||decide (val x<0))=an at*;have HNW:=jq hnw;clear hs hl hp ht HCT;unfold S at*
 rcases Nat.eq_zero_or_pos n with h0|h0
 ·subst h0;rw[if_pos (List.eq_nil_of_length_eq_zero hnw.symm)] at HSC;clear hnw hn;go_enter Tryz.func68,Tryz.ntmps68
  go_wp2_with fail
  first|go_ret|skip
  rw[HPO.out,HSC.out];exact⟨rfl,H.out.bl⟩
 rw[if_neg (fun e=>by rw[e] at hnw;simp at hnw;omega),<-hnw] at HSC;have hn0:((n:Int)==0)=false:=by simp;omega
 by_cases h1:1000<n
 ·rw[if_pos h1] at HSC;clear hnw;go_enter Tryz.func68,Tryz.ntmps68
  go_wp2_with fail
  first|go_ret|skip
  rw[HPO.out,HSC.out];exact⟨rfl,H.out.bl⟩
 rw[if_neg h1] at HSC;have hn1:¬1000<n:=h1;have HW:=jq (fun W (hb:Below w.1.size w W)=>ZcI A n c ws W (H.out.pow.here hb) (HS.out.here hb) HL.out (by omega))
 have HE:=jq (show(Qa (Qz ws)==[])=decide (Qz ws=0) by
  rw[Bool.eq_iff_iff];simp only[beq_iff_eq,decide_eq_true_eq];exact VW)
 clear hnw h1
 cases ct with
 |false=>
  rw[if_pos (.inl rfl)] at HSC;clear HCF HW HE;go_enter Tryz.func68,Tryz.ntmps68
  go_wp2_with fail
  refine(HC.out _ H.out.pw).mono ?_;rintro e w1 ⟨rfl,hb⟩;go_wp2_with fail
  first|go_ret|skip
  rw[HPO.out,HSC.out];exact⟨rfl,(H.out.here hb).bl⟩
 |true=>
  cases an with
  |true=>
   rw[if_pos (.inr rfl)] at HSC;clear HW HE;go_enter Tryz.func68,Tryz.ntmps68
   go_wp2_with fail
   refine(HC.out _ H.out.pw).mono ?_;rintro e w1 ⟨rfl,hb⟩;replace H:=jq (H.out.here hb);clear hb;go_wp2_with fail
   refine(HCF.out _ H.out.bl).mono ?_;rintro e w2 ⟨rfl,hb⟩;go_wp2_with fail
   first|go_ret|skip
   rw[HPO.out,HSC.out];exact⟨rfl,(H.out.here hb).bl⟩
  |false=>
   rw[if_neg (by simp)] at HSC;generalize Qa (Qz ws)=tw at*;generalize hz:decide (Qz ws=0)=zz at*;have HZ:=jq hz;clear hz
   cases zz with
   |true=>
    rw[if_pos (by have:=HZ.out;simpa using this)] at HSC;have hx:(tw==[])=true:=HE.out;clear HE HZ;go_enter Tryz.func68,Tryz.ntmps68
    go_wp2_with fail
    refine(HC.out _ H.out.pw).mono ?_;rintro e w1 ⟨rfl,hb⟩;replace H:=jq (H.out.here hb);clear hb;go_wp2_with fail
    refine(HCF.out _ H.out.bl).mono ?_;rintro e w2 ⟨rfl,hb⟩;replace H:=jq (H.out.here hb);clear hb;go_wp2_with fail
    refine(HW.out _ H.out.bl).mono ?_;rintro e w3 ⟨rfl,hb⟩
    try unfold S
    go_wp2_with fail
    first|go_ret|skip
    rw[HPO.out,HSC.out];exact⟨rfl,(H.out.here hb).bl⟩
   |false=>
    rw[if_neg (by have:=HZ.out;simpa using this)] at HSC;have hx:(tw==[])=false:=HE.out;clear HE HZ;go_enter Tryz.func68,Tryz.ntmps68
    go_wp2_with fail
    refine(HC.out _ H.out.pw).mono ?_;rintro e w1 ⟨rfl,hb⟩;replace H:=jq (H.out.here hb);clear hb;go_wp2_with fail
    refine(HCF.out _ H.out.bl).mono ?_;rintro e w2 ⟨rfl,hb⟩;replace H:=jq (H.out.here hb);clear hb;go_wp2_with fail
    refine(HW.out _ H.out.bl).mono ?_;rintro e w3 ⟨rfl,hb⟩
    try unfold S
    go_wp2_with fail
    first|go_ret|skip
    rw[HPO.out,HSC.out];exact⟨rfl,(H.out.here hb).bl⟩
end
section
theorem ZnA{W:World}{base g:Nat}{u:Value}{xs:List Fr}(h:Own F2 2 26 W base u xs)(hg:u.ownBlock=some g):base<=g:=by
 obtain⟨A,c,rfl,h1,h2,h3,h4⟩:=h.form
 exact(h4 g hg).2.1
theorem ZnB(x:Fr):∀u∈F2 x,u.oneCell'=true:=by simp[F2,S,Value.oneCell']
theorem ZnC:Jz Tryz.prog 68 26 2 32:=VQ Tryz.underlying68 (by kernel_rfl) (by decide) (by decide)
theorem Zpn{W:World}{q:Nat}{f:Fr}{T:TypeId}(h:BlkB W q #[.string ⟨f.n.toArray⟩,.string ⟨f.d.toArray⟩] T):Frs W W.1.size (some ⟨q,0,none⟩) 1 [f]:=by
 refine⟨rfl,fun _=>⟨q,0,rfl,h.lt,fun j z hj k u hk=> ?_⟩⟩
 cases j with
 |zero=>
  simp only[List.getElem?_cons_zero,Option.some.injEq] at hj;subst hj;rw[Nat.zero_mul,Nat.zero_add];exact h.cell k (by simpa[F2,S] using hk)
 |succ j=>simp at hj
def idl(t:List UInt8)(ws:List (List UInt8)):List Fr:=ws.map fun x=>Qd (Rat.divInt (val t*val x) (Qz ws))
def Zfb(t:List UInt8)(ws:List (List UInt8))(n:Nat)(w:World)(e:Ending)(w':World):Prop:=
 ∃A' c',e=.returned (.tuple #[.slice A' n c',.int .i64 0])/\Own F2 2 26 w' w.1.size (.slice A' n c') (idl t ws)/\Below w.1.size w w'
end
end Go.Proofs.YtkddgeclncafoaaGreatDoor
