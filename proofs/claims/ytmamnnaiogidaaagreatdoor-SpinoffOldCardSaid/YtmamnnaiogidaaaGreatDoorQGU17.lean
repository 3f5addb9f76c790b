/- D1, AL1. -/
import Derived.Test.YtmamnnaiogidaaaGreatDoorQGU39
set_option maxRecDepth 20000
set_option maxHeartbeats 2000000
namespace Go.Proofs.YtmamnnaiogidaaaGreatDoor
open Go.Lib renaming hid→jq
open Go.RowKit Go.Shelf
section
theorem ZeF(f:Fr)(hf:f.Sz 40000):Xh 84 #[Qy f] (.tuple #[S (Qa f.rat.num),S (Qa f.rat.den)]):=by
 intro w hp;have H:=jq ((Kp.start hp).new w.1.size rfl #[.string ⟨f.n.toArray⟩,.string ⟨f.d.toArray⟩] 26);have HPA:=jq (fun W=>Vm f W (by have:=hf.2;omega));have HRD:=jq (fun W hp=>Zct f.n f.dt W hp (by have:=hf.1;omega) (by have:=Fr.dt_len hf.2 (by omega);omega) (by rw[Fr.val_dt];exact f.dv_ne));rw[Fr.val_dt,show Rat.divInt (val f.n) f.dv=f.rat from rfl] at HRD;generalize Qa f.rat.num=qn at*;generalize Qa (f.rat.den:Int)=qd at*;have x0:(w.alloc (.cells #[.string ⟨f.n.toArray⟩,.string ⟨f.d.toArray⟩] 26)).cell? ⟨w.1.size,0,none⟩=some (.string ⟨f.n.toArray⟩):=H.out.c 0 0 rfl rfl;have x1:(w.alloc (.cells #[.string ⟨f.n.toArray⟩,.string ⟨f.d.toArray⟩] 26)).cell? ⟨w.1.size,1,none⟩=some (.string ⟨f.d.toArray⟩):=H.out.c 0 1 rfl rfl;clear hf hp;unfold Qy at*
 unfold S at*
 go_enter Tryz.func84,Tryz.ntmps84
 go_wp2_with fail
 generalize w.alloc _=W at*;refine(HPA.out _).mono ?_;rintro e w1 ⟨rfl,hb⟩;unfold S;replace H:=jq (H.out.here hb);clear hb x0 x1;go_wp2_with fail
 refine(HRD.out _ H.out.po).mono ?_;rintro e w2 ⟨rfl,hb⟩;unfold S;replace H:=jq (H.out.here hb);go_wp2_with fail
 first|go_ret2|skip
 exact⟨rfl,H.out.bl⟩
theorem ZeG(f:Fr)(hf:f.Sz 40000):Xh 137 #[Qy f] (S (Qa (QA f.rat))):=by
 intro w hp;have H:=jq ((Kp.start hp).new w.1.size rfl #[.string ⟨f.n.toArray⟩,.string ⟨f.d.toArray⟩] 26);have HPA:=jq (fun W=>Vm f W (by have:=hf.2;omega));have hdv:val f.dt≠0:=by rw[Fr.val_dt];exact f.dv_ne
 have HDV:=jq (fun W hp=>(ZaL f.n f.dt W hp (by have:=hf.1;omega) (by have:=Fr.dt_len hf.2 (by omega);omega)).mono fun e w' h=>ZaM hdv h);have HF:=jq (show Qa ((val f.n).fdiv (val f.dt))=Qa (QA f.rat) by rw[Fr.val_dt,ZfO _ _ f.dv_ne];rfl);rw[HF.out] at HDV;generalize Qa (QA f.rat)=res at*;have x0:(w.alloc (.cells #[.string ⟨f.n.toArray⟩,.string ⟨f.d.toArray⟩] 26)).cell? ⟨w.1.size,0,none⟩=some (.string ⟨f.n.toArray⟩):=H.out.c 0 0 rfl rfl;have x1:(w.alloc (.cells #[.string ⟨f.n.toArray⟩,.string ⟨f.d.toArray⟩] 26)).cell? ⟨w.1.size,1,none⟩=some (.string ⟨f.d.toArray⟩):=H.out.c 0 1 rfl rfl;clear hf hp hdv HF;unfold Qy at*
 unfold S at*
 go_enter Tryz.func137,Tryz.ntmps137
 go_wp2_with fail
 generalize w.alloc _=W at*;refine(HPA.out _).mono ?_;rintro e w1 ⟨rfl,hb⟩;unfold S;replace H:=jq (H.out.here hb);clear hb x0 x1;go_wp2_with fail
 refine(HDV.out _ H.out.po).mono ?_;rintro e w2 ⟨rfl,hb⟩;replace H:=jq (H.out.here hb);go_wp2_with fail
 first|go_ret|skip
 exact⟨rfl,H.out.bl⟩
def nwL(f:Fr):Fr×Int:=if val f.d=0 then(Fr.zero,10) else(Qg (Rat.divInt (val f.n) (val f.d)),0)
theorem ZmL(f:Fr)(hf:f.Sz 50000):Xh 199 #[S f.n,S f.d] (.tuple #[Qy (nwL f).1,.int .i64 (nwL f).2]):=by
 intro w hp;have H:=jq ((Kp.start hp).new w.1.size rfl #[.string ⟨#[]⟩,.string ⟨#[]⟩] 26);have HCM:=jq (fun W=>QC f.d [] W (by have:=hf.2;omega) (by simp));rw[XQ,Int.sub_zero] at HCM;have HMD:=jq (fun W hp h0=>Zbs f.n f.d W hp hf.1 hf.2 h0);have HNL:=jq (show nwL f=if val f.d=0 then(Fr.zero,10) else(Qg (Rat.divInt (val f.n) (val f.d)),0) from rfl);generalize nwL f=nl at*;generalize Qg (Rat.divInt (val f.n) (val f.d))=res at*;have HS:=jq (Zf6 (val f.d));clear hf hp;unfold Qy at*
 unfold S at*
 go_enter Tryz.func199,Tryz.ntmps199
 go_wp2_with fail
 generalize w.alloc _=W at*;refine(HCM.out _).mono ?_;rintro e w1 ⟨rfl,hb⟩;replace H:=jq (H.out.here hb);have c0:w1.cell? ⟨w.1.size,0,none⟩=some (.string ⟨#[]⟩):=H.out.c 0 0 rfl rfl;have c1:w1.cell? ⟨w.1.size,1,none⟩=some (.string ⟨#[]⟩):=H.out.c 0 1 rfl rfl;have f0:=H.out.f 0 0 rfl;have f1:=H.out.f 0 1 rfl;clear hb
 by_cases h0:val f.d=0
 ·have hs:(QO (val f.d)==0)=true:=by rw[HS.out];simp[h0]
  rw[if_pos h0] at HNL;clear h0 HS HMD;go_wp2_with fail
  refine bodyPost_ret (v:=.tuple #[.agg #[.string ⟨#[]⟩,.string ⟨#[]⟩],.int .i64 10]) (by simp[results,Tryz.results199,go_sem,c0,c1]) rfl ?_;rw[HNL.out];exact⟨rfl,((H.out.set 0 0 rfl _).set 0 1 rfl _).bl⟩
 ·have hs:(QO (val f.d)==0)=false:=by rw[HS.out];simp[h0]
  rw[if_neg h0] at HNL;have HMD2:=jq (fun W hp=>HMD.out W hp h0);clear h0 HS HMD c0 c1 f0 f1;go_wp2_with fail
  refine(HMD2.out _ H.out.po).mono ?_;rintro e w2 ⟨rfl,hb⟩;unfold Qy S;replace H:=jq (H.out.here hb);have c0:w2.cell? ⟨w.1.size,0,none⟩=some (.string ⟨#[]⟩):=H.out.c 0 0 rfl rfl;have c1:w2.cell? ⟨w.1.size,1,none⟩=some (.string ⟨#[]⟩):=H.out.c 0 1 rfl rfl;have f0:=H.out.f 0 0 rfl;have f1:=H.out.f 0 1 rfl;go_wp2_with fail
  refine bodyPost_ret (v:=.tuple #[.agg #[.string ⟨res.n.toArray⟩,.string ⟨res.d.toArray⟩],.int .i64 0]) (by simp[results,Tryz.results199,go_sem,c0,c1]) rfl ?_;rw[HNL.out];exact⟨rfl,((H.out.set 0 0 rfl _).set 0 1 rfl _).bl⟩
theorem Xy(a:List UInt8)(ha:a.length<=1000000000):Xh 92 #[S a] (.int .i64 (if a=Qa (val a) then 0 else 1)):=by
 intro w hp;have HC:=jq (VY a w ha);rw[Zee] at HC;have HEQ:=jq (show ∀t:List UInt8,(if a=t then(0:Int) else 1)=if(a==t)=true then 0 else 1 by intro t;by_cases h:a=t<;>simp[h]);rw[HEQ.out];clear HEQ ha;generalize Qa (val a)=t at*;unfold S at*
 cases h:(a==t)
 all_goals
  go_enter Tryz.func92,Tryz.ntmps92
  go_wp2_with fail
  refine HC.out.mono ?_;rintro e w1 ⟨rfl,hb⟩;go_wp2_with fail
  first|go_ret|skip
  exact⟨rfl,hb⟩
theorem Zij:val [50]=2:=by decide+kernel
theorem Zlc(a:List UInt8)(ha:a.length<=100000):Xh 86 #[S a] (.bool (decide ((val a).fmod 2=0))):=by
 intro w hp;have HDV:=jq ((ZaL a [50] w hp.pow ha (by simp)).mono fun e w' h=>ZaM (by rw[Zij];omega) h);rw[Zij] at HDV
 have HE:=jq (show(Qa ((val a).fmod 2)==[])=decide ((val a).fmod 2=0) by
  rw[Bool.eq_iff_iff];simp only[beq_iff_eq,decide_eq_true_eq];exact Vt)
 generalize Qa ((val a).fmod 2)=t at*;generalize decide ((val a).fmod 2=0)=bb at*;clear ha hp;unfold S at*
 go_enter Tryz.func86,Tryz.ntmps86
 go_wp2_with fail
 refine HDV.out.mono ?_;rintro e w1 ⟨rfl,hb⟩;go_wp2_with fail
 first|go_ret|skip
 exact⟨Qi ((show t.isEmpty=(t==[]) by cases t<;>rfl).trans HE.out),hb⟩
theorem Zld(q:Rat):(Vu q=0/\rnd q=QA q)\/(Vu q≠0/\QO (Vu q+Vu q-q.den)= -1/\rnd q=QA q)\/(Vu q≠0/\QO (Vu q+Vu q-q.den)=0/\rnd q=if(QA q).fmod 2=0 then QA q else QA q+1)\/(Vu q≠0/\QO (Vu q+Vu q-q.den)=1/\rnd q=QA q+1):=by
 have hb:=Xs q;unfold rnd QO
 by_cases h0:Vu q=0
 ·exact .inl ⟨h0,by rw[if_neg];omega⟩
 ·rcases Int.lt_trichotomy (2*Vu q) q.den with h|h|h
  ·exact .inr (.inl ⟨h0,by rw[if_pos (by omega)],by rw[if_neg];omega⟩)
  ·refine .inr (.inr (.inl ⟨h0,by rw[if_neg (by omega),if_neg (by omega)],?_⟩))
   by_cases he:(QA q).fmod 2=0
   ·rw[if_pos he,if_neg];omega
   ·rw[if_neg he,if_pos (.inr ⟨h,he⟩)]
  ·exact .inr (.inr (.inr ⟨h0,by rw[if_neg (by omega),if_pos (by omega)],by rw[if_pos (.inl h)]⟩))
theorem Zb6(f:Fr)(hf:f.Sz 20000):Xh 41 #[Qy f,.int .i64 1] (.tuple #[S (Qa (rnd f.rat)),.int .i64 0]):=by
 intro w hp;have H:=jq ((Kp.start hp).new w.1.size rfl #[.string ⟨f.n.toArray⟩,.string ⟨f.d.toArray⟩] 26);have HPA:=jq (ZeF f (hf.more (by omega)))
 have hsz:f.rat.num.natAbs<10^20000/\f.rat.den<10^20000:=by
  obtain⟨K,hK⟩:∃K:Nat,K=20000:=⟨_,rfl⟩
  rw[<-hK] at hf ⊢;exact Zcl hf (by omega)
 have hd0:(f.rat.den:Int)≠0:=by have:=f.rat.den_nz;omega
 have hbd:=Xs f.rat;have hlo:=Zc7 f.rat;have HRC:=jq (Zld f.rat);generalize hq:f.rat=q at*;obtain⟨K,hK⟩:∃K:Nat,K=20000:=⟨_,rfl⟩
 rw[<-hK] at hsz;have hp1:10^K+1<10^(K+1):=by have:1<=10^K:=Nat.pow_pos (by omega);rw[Nat.pow_succ];have:10^1<=10^K:=Nat.pow_le_pow_right (by omega) (by omega);omega
 have hp2:10^(K+1)+1<10^(K+2):=by have:10^1<=10^(K+1):=Nat.pow_le_pow_right (by omega) (by omega);rw[Nat.pow_succ 10 (K+1)];omega
 have l1:=Qd (n:=q.num) (L:=K) hsz.1;have l2:=Qd (n:=(q.den:Int)) (L:=K) (by simpa using hsz.2);have l3:=Qd (n:=QA q) (L:=K+1) (by omega);have l4:=Qd (n:=Vu q) (L:=K) (by omega);have l5:=Qd (n:=Vu q+Vu q) (L:=K+1) (by omega);clear hp1 hp2 hlo hsz;have HDV:=jq (fun W hp=>(ZaL (Qa q.num) (Qa q.den) W hp (by omega) (by omega)).mono fun e w' h=>ZaM (by rw[Qc];exact hd0) h);rw[Qc,Qc,show q.num.fdiv (q.den:Int)=QA q from rfl,show q.num.fmod (q.den:Int)=Vu q from rfl] at HDV;have HCN:=jq (fun W=>QC (Qa q.num) [] W (by omega) (by simp));have HAR:=jq (fun W hp=>Xv (Qa (Vu q)) (Qa (Vu q)) W hp (by omega) (by omega));rw[Qc] at HAR;have HCM:=jq (fun W=>QC (Qa (Vu q+Vu q)) (Qa q.den) W (by omega) (by omega));rw[Qc,Qc] at HCM;have HAD:=jq (fun W hp=>Xv (Qa (QA q)) [49] W hp (by omega) (by simp));rw[Qc,VN] at HAD;have HEV:=jq (Zlc (Qa (QA q)) (by omega));rw[Qc] at HEV
 have HNZ:=jq (show Vu q≠0->(Qa (Vu q)==[])=false by
  intro h;rw[Bool.eq_false_iff];intro h2;exact h (Vt.1 (eq_of_beq h2)))
 clear hf hp hq hK l1 l2 l3 l4 l5 hbd hd0;have x0:(w.alloc (.cells #[.string ⟨f.n.toArray⟩,.string ⟨f.d.toArray⟩] 26)).cell? ⟨w.1.size,0,none⟩=some (.string ⟨f.n.toArray⟩):=H.out.c 0 0 rfl rfl;have x1:(w.alloc (.cells #[.string ⟨f.n.toArray⟩,.string ⟨f.d.toArray⟩] 26)).cell? ⟨w.1.size,1,none⟩=some (.string ⟨f.d.toArray⟩):=H.out.c 0 1 rfl rfl;generalize QO (val (Qa q.num)-val [])=sn at*;unfold Qy at*
 unfold S at*
 go_enter Tryz.func41,Tryz.ntmps41
 go_wp2_with fail
 generalize w.alloc _=W at*;refine(HPA.out _ H.out.pw).mono ?_;rintro e w1 ⟨rfl,hb⟩;replace H:=jq (H.out.here hb);clear hb x0 x1;go_wp2_with fail
 refine(HDV.out _ H.out.po).mono ?_;rintro e w2 ⟨rfl,hb⟩;replace H:=jq (H.out.here hb);clear hb
 rcases HRC.out with ⟨hr,hres⟩|⟨hr,hs,hres⟩|⟨hr,hs,hres⟩|⟨hr,hs,hres⟩
 ·rw[hr] at HAR HCM ⊢;rw[show Qa (0:Int)=[] from rfl] at HAR ⊢;rw[show(0:Int)+0=0 from rfl,show Qa (0:Int)=[] from rfl] at HAR;rw[show(0:Int)+0=0 from rfl,show Qa (0:Int)=[] from rfl,show QO (0-(q.den:Int))= -1 by unfold QO;rw[if_pos];have:=q.den_pos;omega] at HCM;have HRES:=jq hres;clear hr hres HRC HNZ HAD;go_wp2_with fail
  refine(HCN.out _).mono ?_;rintro e w3 ⟨rfl,hb⟩;replace H:=jq (H.out.here hb);clear hb;go_wp2_with fail
  refine(HAR.out _ H.out.po).mono ?_;rintro e w4 ⟨rfl,hb⟩;replace H:=jq (H.out.here hb);clear hb
  try unfold S
  go_wp2_with fail
  refine(HCM.out _).mono ?_;rintro e w5 ⟨rfl,hb⟩;replace H:=jq (H.out.here hb);clear hb;go_wp2_with fail
  first|go_ret2|skip
  rw[HRES.out];exact⟨rfl,H.out.bl⟩
 all_goals
  have hne:=HNZ.out hr;rw[hs] at HCM;have HRES:=jq hres;clear hr hs hres HRC HNZ;go_wp2_with fail
  refine(HAD.out _ H.out.po).mono ?_;rintro e w2b ⟨rfl,hb⟩;replace H:=jq (H.out.here hb);clear hb
  try unfold S
  go_wp2_with fail
  refine(HCN.out _).mono ?_;rintro e w3 ⟨rfl,hb⟩;replace H:=jq (H.out.here hb);clear hb;go_wp2_with fail
  refine(HAR.out _ H.out.po).mono ?_;rintro e w4 ⟨rfl,hb⟩;replace H:=jq (H.out.here hb);clear hb
  try unfold S
  go_wp2_with fail
  refine(HCM.out _).mono ?_;rintro e w5 ⟨rfl,hb⟩;replace H:=jq (H.out.here hb);clear hb
 ·go_wp2_with fail
  first|go_ret2|skip
  rw[HRES.out];exact⟨rfl,H.out.bl⟩
 ·by_cases he:(QA q).fmod 2=0
  ·rw[if_pos he] at HRES;rw[show decide ((QA q).fmod 2=0)=true by simp[he]] at HEV;clear he;go_wp2_with fail
   refine(HEV.out _ H.out.pw).mono ?_;rintro e w6 ⟨rfl,hb⟩;replace H:=jq (H.out.here hb);clear hb;go_wp2_with fail
   first|go_ret2|skip
   rw[HRES.out];exact⟨rfl,H.out.bl⟩
  ·rw[if_neg he] at HRES;rw[show decide ((QA q).fmod 2=0)=false by simp[he]] at HEV;clear he;go_wp2_with fail
   refine(HEV.out _ H.out.pw).mono ?_;rintro e w6 ⟨rfl,hb⟩;replace H:=jq (H.out.here hb);clear hb;go_wp2_with fail
   first|go_ret2|skip
   rw[HRES.out];exact⟨rfl,H.out.bl⟩
 ·go_wp2_with fail
  first|go_ret2|skip
  rw[HRES.out];exact⟨rfl,H.out.bl⟩
end
section
theorem YJ(a:List UInt8)(ha:a.length<=100000):Xh 132 #[S a] (.bool (decide (val a<0))):=by
 intro w hp;have HC:=jq (QC a [] w ha (by simp));rw[XQ,Int.sub_zero] at HC;have HE:=jq (show decide (QO (val a)<0)=decide (val a<0) by rw[Bool.eq_iff_iff,decide_eq_true_eq,decide_eq_true_eq];unfold QO;(repeat' split)<;>omega);generalize QO (val a)=z at*;generalize decide (val a<0)=bb at*;clear ha hp;unfold S at*
 go_enter Tryz.func132,Tryz.ntmps132
 go_wp2_with fail
 refine HC.out.mono ?_;rintro e w1 ⟨rfl,hb⟩;go_wp2_with fail
 first|go_ret|skip
 exact⟨Qi HE.out,hb⟩
theorem ZdA(A:Option Addr)(n c:Nat)(ws:List (List UInt8))(w:World)(hp:Env w)(hs:Vk w w.1.size A n ws)(hl:∀x∈ws,x.length<=50000)(hn:n<=9999):
 Calls Tryz.prog 133 #[.slice A n c] w (QG (Qa (Qw ws)) w):=by
 have HPO:=jq (show QG (Qa (Qw ws)) w=fun e w'=>e=.returned (S (Qa (Qw ws)))/\Below w.1.size w w' from rfl);generalize QG (Qa (Qw ws)) w=post at*;have HS:=jq hs;have HL:=jq hl;have H0:=jq (Kp.start hp);have hnw:=hs.1;have HNW:=jq hnw;clear hs hl hp hnw;unfold S at*
 go_enter Tryz.func133,Tryz.ntmps133
 go_wp2_with fail
 go_loopw [3,8] (fun s i wr=>∃k:Nat,k<=n/\i=.int .i64 k/\s=.string ⟨(Qa (Qw (ws.take k))).toArray⟩/\Hid (Kp w [] wr)) (fun _ i _=>n-(intOf i).toNat)
 case atStart=>exact⟨0,Nat.zero_le _,rfl,rfl,H0⟩
 case round=>
  clear H0;obtain⟨k,hk,rfl,rfl,H⟩:=hrel
  by_cases hlt:k<n
  ·obtain⟨b,off,x,rfl,hb,hx,d0⟩:=(HS.out.below H.out.bl).st hlt
   have HA:=jq (Xv (Qa (Qw (ws.take k))) x wr H.out.po (by have:=Za1 HL.out (by rw[<-HNW.out];omega) k;omega) (by have:=HL.out x (List.mem_of_getElem? hx);omega));rw[Qc,<-Zej hx] at HA;clear hx;unfold S at HA;go_wp2_with fail
   refine HA.out.mono ?_;rintro e w1 ⟨rfl,hb1⟩
   try unfold S
   go_wp2_with fail
   go_roundw
   case rel=>exact⟨k+1,by omega,by go_num,rfl,H.out.here hb1⟩
   case measure=>simp[intOf];omega
  ·have HE:=jq (show Qa (Qw (ws.take k))=Qa (Qw ws) by rw[List.take_of_length_le (by have:=HNW.out;omega)]);rw[HE.out];go_wp2_with fail
   first|go_ret|skip
   rw[HPO.out];exact⟨rfl,H.out.bl⟩
def QX(t:List UInt8)(ws:List (List UInt8)):Int:=
 if ws=[] then 11 else if 1000<ws.length then 4 else if Xo t=false\/ws.any (fun x=> !Xo x||decide (val x<0))=true then 1 else if Qw ws=0 then 10 else 0
theorem Zgp(a:List UInt8)(ha:a.length<=100000):Xh 131 #[S a] (.bool (!Xo a||decide (val a<0))):=by
 intro w hp;have HC:=jq (Xy a (by omega));have HN:=jq (YJ a ha);have H:=jq (Kp.start hp);generalize decide (val a<0)=bb at*;clear ha hp
 by_cases hc:a=Qa (val a)
 ·rw[if_pos hc] at HC;have HCB:=jq (show Xo a=true by unfold Xo;simpa using hc);rw[HCB.out];clear hc;unfold S at*
  go_enter Tryz.func131,Tryz.ntmps131
  go_wp2_with fail
  refine(HC.out _ H.out.pw).mono ?_;rintro e w1 ⟨rfl,hb⟩;replace H:=jq (H.out.here hb);clear hb;go_wp2_with fail
  refine(HN.out _ H.out.pw).mono ?_;rintro e w2 ⟨rfl,hb⟩;go_wp2_with fail
  first|go_ret|skip
  exact⟨rfl,(H.out.here hb).bl⟩
 ·rw[if_neg hc] at HC;have HCB:=jq (show Xo a=false by unfold Xo;simpa using hc);rw[HCB.out];clear hc;unfold S at*
  go_enter Tryz.func131,Tryz.ntmps131
  go_wp2_with fail
  refine(HC.out _ H.out.pw).mono ?_;rintro e w1 ⟨rfl,hb⟩;go_wp2_with fail
  first|go_ret|skip
  exact⟨rfl,(H.out.here hb).bl⟩
theorem ZdB(t:List UInt8)(A:Option Addr)(n c:Nat)(ws:List (List UInt8))(w:World)(hp:Env w)(hs:Vk w w.1.size A n ws)(ht:t.length<=100000)(hl:∀x∈ws,x.length<=50000)(hn:n<=1000000000):
 Calls Tryz.prog 89 #[S t,.slice A n c] w (QI (QX t ws) w):=by
 have HPO:=jq (show QI (QX t ws) w=fun e w'=>e=.returned (.int .i64 (QX t ws))/\Below w.1.size w w' from rfl);have HSC:=jq (show QX t ws=if ws=[] then 11 else if 1000<ws.length then 4 else if Xo t=false\/ws.any (fun x=> !Xo x||decide (val x<0))=true then 1 else if Qw ws=0 then 10 else 0 from rfl);generalize QI (QX t ws) w=post at*;generalize QX t ws=res at*;have HS:=jq hs;have HL:=jq hl;have H:=jq (Kp.start hp);have hnw:=hs.1;have HC:=jq (Xy t (by omega));have HCF:=jq (fun W (hb:Below w.1.size w W)=>Zdz 131 #[] (fun x=> !Xo x||decide (val x<0)) A n c ws W (enters_of Tryz.func131 (by kernel_rfl) rfl) (fun W' x hx hb'=>Zgp x (by have:=hl x hx;omega) W' ((hp.here hb).here hb')) (hs.here hb) hn)
 have HCT:=jq (show(if t=Qa (val t) then(0:Int) else 1)=if Xo t=true then 0 else 1 by
  unfold Xo
  by_cases h:t=Qa (val t)
  ·rw[if_pos h,if_pos (decide_eq_true h)]
  ·rw[if_neg h,if_neg (by simpa using h)])
 rw[HCT.out] at HC;generalize Xo t=ct at*;generalize ws.any (fun x=> !Xo x||decide (val x<0))=an at*;have HNW:=jq hnw;clear hs hl hp ht HCT;unfold S at*
 rcases Nat.eq_zero_or_pos n with h0|h0
 ·subst h0;rw[if_pos (List.eq_nil_of_length_eq_zero hnw.symm)] at HSC;clear hnw hn;go_enter Tryz.func89,Tryz.ntmps89
  go_wp2_with fail
  first|go_ret|skip
  rw[HPO.out,HSC.out];exact⟨rfl,H.out.bl⟩
 rw[if_neg (fun e=>by rw[e] at hnw;simp at hnw;omega),<-hnw] at HSC;have hn0:((n:Int)==0)=false:=by simp;omega
 by_cases h1:1000<n
 ·rw[if_pos h1] at HSC;clear hnw;go_enter Tryz.func89,Tryz.ntmps89
  go_wp2_with fail
  first|go_ret|skip
  rw[HPO.out,HSC.out];exact⟨rfl,H.out.bl⟩
 rw[if_neg h1] at HSC;have hn1:¬1000<n:=h1;have HW:=jq (fun W (hb:Below w.1.size w W)=>ZdA A n c ws W (H.out.pow.here hb) (HS.out.here hb) HL.out (by omega))
 have HE:=jq (show(Qa (Qw ws)==[])=decide (Qw ws=0) by
  rw[Bool.eq_iff_iff];simp only[beq_iff_eq,decide_eq_true_eq];exact Vt)
 clear hnw h1
 cases ct with
 |false=>
  rw[if_pos (.inl rfl)] at HSC;clear HCF HW HE;go_enter Tryz.func89,Tryz.ntmps89
  go_wp2_with fail
  refine(HC.out _ H.out.pw).mono ?_;rintro e w1 ⟨rfl,hb⟩;go_wp2_with fail
  first|go_ret|skip
  rw[HPO.out,HSC.out];exact⟨rfl,(H.out.here hb).bl⟩
 |true=>
  cases an with
  |true=>
   rw[if_pos (.inr rfl)] at HSC;clear HW HE;go_enter Tryz.func89,Tryz.ntmps89
   go_wp2_with fail
   refine(HC.out _ H.out.pw).mono ?_;rintro e w1 ⟨rfl,hb⟩;replace H:=jq (H.out.here hb);clear hb;go_wp2_with fail
   refine(HCF.out _ H.out.bl).mono ?_;rintro e w2 ⟨rfl,hb⟩;go_wp2_with fail
   first|go_ret|skip
   rw[HPO.out,HSC.out];exact⟨rfl,(H.out.here hb).bl⟩
  |false=>
   rw[if_neg (by simp)] at HSC;generalize Qa (Qw ws)=tw at*;generalize hz:decide (Qw ws=0)=zz at*;have HZ:=jq hz;clear hz
   cases zz with
   |true=>
    rw[if_pos (by have:=HZ.out;simpa using this)] at HSC;have hx:(tw==[])=true:=HE.out;clear HE HZ;go_enter Tryz.func89,Tryz.ntmps89
    go_wp2_with fail
    refine(HC.out _ H.out.pw).mono ?_;rintro e w1 ⟨rfl,hb⟩;replace H:=jq (H.out.here hb);clear hb;go_wp2_with fail
    refine(HCF.out _ H.out.bl).mono ?_;rintro e w2 ⟨rfl,hb⟩;replace H:=jq (H.out.here hb);clear hb;go_wp2_with fail
    refine(HW.out _ H.out.bl).mono ?_;rintro e w3 ⟨rfl,hb⟩
    try unfold S
    go_wp2_with fail
    first|go_ret|skip
    rw[HPO.out,HSC.out];exact⟨rfl,(H.out.here hb).bl⟩
   |false=>
    rw[if_neg (by have:=HZ.out;simpa using this)] at HSC;have hx:(tw==[])=false:=HE.out;clear HE HZ;go_enter Tryz.func89,Tryz.ntmps89
    go_wp2_with fail
    refine(HC.out _ H.out.pw).mono ?_;rintro e w1 ⟨rfl,hb⟩;replace H:=jq (H.out.here hb);clear hb;go_wp2_with fail
    refine(HCF.out _ H.out.bl).mono ?_;rintro e w2 ⟨rfl,hb⟩;replace H:=jq (H.out.here hb);clear hb;go_wp2_with fail
    refine(HW.out _ H.out.bl).mono ?_;rintro e w3 ⟨rfl,hb⟩
    try unfold S
    go_wp2_with fail
    first|go_ret|skip
    rw[HPO.out,HSC.out];exact⟨rfl,(H.out.here hb).bl⟩
end
end Go.Proofs.YtmamnnaiogidaaaGreatDoor
