/- D1. -/
import Derived.Test.YtokjnjdbnabchaaGreatDoorQGEp38
import Derived.Test.YtokjnjdbnabchaaGreatDoorQGEp12
set_option maxRecDepth 20000
set_option maxHeartbeats 2000000
namespace Go.Proofs.YtokjnjdbnabchaaGreatDoor
open Go.Lib renaming hid→jq
section
open Go.RowKit Go.Shelf
theorem ZeS(f:Fr)(hf:f.Sz 40000):Vd 157 #[Qj f] (.tuple #[S (Qb f.rat.num),S (Qb f.rat.den)]):=by
 intro w hp;have H:=jq ((Kp.start hp).new w.1.size rfl #[.string ⟨f.n.toArray⟩,.string ⟨f.d.toArray⟩] 28);have HPA:=jq (fun W=>Yc f W (by have:=hf.2;omega));have HRD:=jq (fun W hp=>Jh f.n f.dt W hp (by have:=hf.1;omega) (by have:=Fr.dt_len hf.2 (by omega);omega) (by rw[Fr.val_dt];exact f.dv_ne));rw[Fr.val_dt,show Rat.divInt (val f.n) f.dv=f.rat from rfl] at HRD;generalize Qb f.rat.num=qn at*;generalize Qb (f.rat.den:Int)=qd at*;have x0:(w.alloc (.cells #[.string ⟨f.n.toArray⟩,.string ⟨f.d.toArray⟩] 28)).cell? ⟨w.1.size,0,none⟩=some (.string ⟨f.n.toArray⟩):=H.out.c 0 0 rfl rfl;have x1:(w.alloc (.cells #[.string ⟨f.n.toArray⟩,.string ⟨f.d.toArray⟩] 28)).cell? ⟨w.1.size,1,none⟩=some (.string ⟨f.d.toArray⟩):=H.out.c 0 1 rfl rfl;clear hf hp;unfold Qj at*
 unfold S at*
 go_enter Tryz.func157,Tryz.ntmps157
 go_wp2_with fail
 generalize w.alloc _=W at*;refine(HPA.out _).mono ?_;rintro e w1 ⟨rfl,hb⟩;unfold S;replace H:=jq (H.out.here hb);clear hb x0 x1;go_wp2_with fail
 refine(HRD.out _ H.out.po).mono ?_;rintro e w2 ⟨rfl,hb⟩;unfold S;replace H:=jq (H.out.here hb);go_wp2_with fail
 first|go_ret2|skip
 exact⟨rfl,H.out.bl⟩
theorem ZdC(a:List UInt8)(ha:a.length<=1000000000):Vd 66 #[S a] (.int .i64 (if a=Qb (val a) then 0 else 1)):=by
 intro w hp;have HC:=jq (ZaF a w ha);rw[Zek] at HC;have HEQ:=jq (show ∀t:List UInt8,(if a=t then(0:Int) else 1)=if(a==t)=true then 0 else 1 by intro t;by_cases h:a=t<;>simp[h]);rw[HEQ.out];clear HEQ ha;generalize Qb (val a)=t at*;unfold S at*
 cases h:(a==t)
 all_goals
  go_enter Tryz.func66,Tryz.ntmps66
  go_wp2_with fail
  refine HC.out.mono ?_;rintro e w1 ⟨rfl,hb⟩;go_wp2_with fail
  first|go_ret|skip
  exact⟨rfl,hb⟩
theorem Zed:val [50]=2:=by decide+kernel
theorem Zgy(a:List UInt8)(ha:a.length<=100000):Vd 158 #[S a] (.bool (decide ((val a).fmod 2=0))):=by
 intro w hp;have HDV:=jq ((Jy a [50] w hp.pow ha (by simp)).mono fun e w' h=>Jz (by rw[Zed];omega) h);rw[Zed] at HDV
 have HE:=jq (show(Qb ((val a).fmod 2)==[])=decide ((val a).fmod 2=0) by
  rw[Bool.eq_iff_iff];simp only[beq_iff_eq,decide_eq_true_eq];exact Zb8)
 generalize Qb ((val a).fmod 2)=t at*;generalize decide ((val a).fmod 2=0)=bb at*;clear ha hp;unfold S at*
 go_enter Tryz.func158,Tryz.ntmps158
 go_wp2_with fail
 refine HDV.out.mono ?_;rintro e w1 ⟨rfl,hb⟩;go_wp2_with fail
 first|go_ret|skip
 exact⟨Qm ((show t.isEmpty=(t==[]) by cases t<;>rfl).trans HE.out),hb⟩
theorem Zgz(q:Rat):(Vs q=0/\rnd q=flo q)\/(Vs q≠0/\QQ (Vs q+Vs q-q.den)= -1/\rnd q=flo q)\/(Vs q≠0/\QQ (Vs q+Vs q-q.den)=0/\rnd q=if(flo q).fmod 2=0 then flo q else flo q+1)\/(Vs q≠0/\QQ (Vs q+Vs q-q.den)=1/\rnd q=flo q+1):=by
 have hb:=Vl q;unfold rnd QQ
 by_cases h0:Vs q=0
 ·exact .inl ⟨h0,by rw[if_neg];omega⟩
 ·rcases Int.lt_trichotomy (2*Vs q) q.den with h|h|h
  ·exact .inr (.inl ⟨h0,by rw[if_pos (by omega)],by rw[if_neg];omega⟩)
  ·refine .inr (.inr (.inl ⟨h0,by rw[if_neg (by omega),if_neg (by omega)],?_⟩))
   by_cases he:(flo q).fmod 2=0
   ·rw[if_pos he,if_neg];omega
   ·rw[if_neg he,if_pos (.inr ⟨h,he⟩)]
  ·exact .inr (.inr (.inr ⟨h0,by rw[if_neg (by omega),if_pos (by omega)],by rw[if_pos (.inl h)]⟩))
theorem ZeT(f:Fr)(hf:f.Sz 20000):Vd 109 #[Qj f,.int .i64 1] (.tuple #[S (Qb (rnd f.rat)),.int .i64 0]):=by
 intro w hp;have H:=jq ((Kp.start hp).new w.1.size rfl #[.string ⟨f.n.toArray⟩,.string ⟨f.d.toArray⟩] 28);have HPA:=jq (ZeS f (hf.more (by omega)))
 have hsz:f.rat.num.natAbs<10^20000/\f.rat.den<10^20000:=by
  obtain⟨K,hK⟩:∃K:Nat,K=20000:=⟨_,rfl⟩
  rw[<-hK] at hf ⊢;exact ZhX hf (by omega)
 have hd0:(f.rat.den:Int)≠0:=by have:=f.rat.den_nz;omega
 have hbd:=Vl f.rat;have hlo:=Zia f.rat;have HRC:=jq (Zgz f.rat);generalize hq:f.rat=q at*;obtain⟨K,hK⟩:∃K:Nat,K=20000:=⟨_,rfl⟩
 rw[<-hK] at hsz;have hp1:10^K+1<10^(K+1):=by have:1<=10^K:=Nat.pow_pos (by omega);rw[Nat.pow_succ];have:10^1<=10^K:=Nat.pow_le_pow_right (by omega) (by omega);omega
 have hp2:10^(K+1)+1<10^(K+2):=by have:10^1<=10^(K+1):=Nat.pow_le_pow_right (by omega) (by omega);rw[Nat.pow_succ 10 (K+1)];omega
 have l1:=Qk (n:=q.num) (L:=K) hsz.1;have l2:=Qk (n:=(q.den:Int)) (L:=K) (by simpa using hsz.2);have l3:=Qk (n:=flo q) (L:=K+1) (by omega);have l4:=Qk (n:=Vs q) (L:=K) (by omega);have l5:=Qk (n:=Vs q+Vs q) (L:=K+1) (by omega);clear hp1 hp2 hlo hsz;have HDV:=jq (fun W hp=>(Jy (Qb q.num) (Qb q.den) W hp (by omega) (by omega)).mono fun e w' h=>Jz (by rw[Qh];exact hd0) h);rw[Qh,Qh,show q.num.fdiv (q.den:Int)=flo q from rfl,show q.num.fmod (q.den:Int)=Vs q from rfl] at HDV;have HCN:=jq (fun W=>QM (Qb q.num) [] W (by omega) (by simp));have HAR:=jq (fun W hp=>Zbv (Qb (Vs q)) (Qb (Vs q)) W hp (by omega) (by omega));rw[Qh] at HAR;have HCM:=jq (fun W=>QM (Qb (Vs q+Vs q)) (Qb q.den) W (by omega) (by omega));rw[Qh,Qh] at HCM;have HAD:=jq (fun W hp=>Zbv (Qb (flo q)) [49] W hp (by omega) (by simp));rw[Qh,YP] at HAD;have HEV:=jq (Zgy (Qb (flo q)) (by omega));rw[Qh] at HEV
 have HNZ:=jq (show Vs q≠0->(Qb (Vs q)==[])=false by
  intro h;rw[Bool.eq_false_iff];intro h2;exact h (Zb8.1 (eq_of_beq h2)))
 clear hf hp hq hK l1 l2 l3 l4 l5 hbd hd0;have x0:(w.alloc (.cells #[.string ⟨f.n.toArray⟩,.string ⟨f.d.toArray⟩] 28)).cell? ⟨w.1.size,0,none⟩=some (.string ⟨f.n.toArray⟩):=H.out.c 0 0 rfl rfl;have x1:(w.alloc (.cells #[.string ⟨f.n.toArray⟩,.string ⟨f.d.toArray⟩] 28)).cell? ⟨w.1.size,1,none⟩=some (.string ⟨f.d.toArray⟩):=H.out.c 0 1 rfl rfl;generalize QQ (val (Qb q.num)-val [])=sn at*;unfold Qj at*
 unfold S at*
 go_enter Tryz.func109,Tryz.ntmps109
 go_wp2_with fail
 generalize w.alloc _=W at*;refine(HPA.out _ H.out.pw).mono ?_;rintro e w1 ⟨rfl,hb⟩;replace H:=jq (H.out.here hb);clear hb x0 x1;go_wp2_with fail
 refine(HDV.out _ H.out.po).mono ?_;rintro e w2 ⟨rfl,hb⟩;replace H:=jq (H.out.here hb);clear hb
 rcases HRC.out with ⟨hr,hres⟩|⟨hr,hs,hres⟩|⟨hr,hs,hres⟩|⟨hr,hs,hres⟩
 ·rw[hr] at HAR HCM ⊢;rw[show Qb (0:Int)=[] from rfl] at HAR ⊢;rw[show(0:Int)+0=0 from rfl,show Qb (0:Int)=[] from rfl] at HAR;rw[show(0:Int)+0=0 from rfl,show Qb (0:Int)=[] from rfl,show QQ (0-(q.den:Int))= -1 by unfold QQ;rw[if_pos];have:=q.den_pos;omega] at HCM;have HRES:=jq hres;clear hr hres HRC HNZ HAD;go_wp2_with fail
  refine(HCN.out _).mono ?_;rintro e w3 ⟨rfl,hb⟩;replace H:=jq (H.out.here hb);clear hb;go_wp2_with fail
  refine(HAR.out _ H.out.po).mono ?_;rintro e w4 ⟨rfl,hb⟩;replace H:=jq (H.out.here hb);clear hb
  try unfold S
  go_wp2_with fail
  refine(HCM.out _).mono ?_;rintro e w5 ⟨rfl,hb⟩;replace H:=jq (H.out.here hb);clear hb;go_wp2_with fail
  first|go_ret2|skip
  rw[HRES.out];exact⟨rfl,H.out.bl⟩
 all_goals
  have hne:=HNZ.out hr;rw[hs] at HCM;have HRES:=jq hres;clear hr hs hres HRC HNZ;go_wp2_with fail
  refine(HAD.out _ H.out.po).mono ?_;rintro e w2b ⟨rfl,hb⟩;replace H:=jq (H.out.here hb);clear hb
  try unfold S
  go_wp2_with fail
  refine(HCN.out _).mono ?_;rintro e w3 ⟨rfl,hb⟩;replace H:=jq (H.out.here hb);clear hb;go_wp2_with fail
  refine(HAR.out _ H.out.po).mono ?_;rintro e w4 ⟨rfl,hb⟩;replace H:=jq (H.out.here hb);clear hb
  try unfold S
  go_wp2_with fail
  refine(HCM.out _).mono ?_;rintro e w5 ⟨rfl,hb⟩;replace H:=jq (H.out.here hb);clear hb
 ·go_wp2_with fail
  first|go_ret2|skip
  rw[HRES.out];exact⟨rfl,H.out.bl⟩
 ·by_cases he:(flo q).fmod 2=0
  ·rw[if_pos he] at HRES;rw[show decide ((flo q).fmod 2=0)=true by simp[he]] at HEV;clear he;go_wp2_with fail
   refine(HEV.out _ H.out.pw).mono ?_;rintro e w6 ⟨rfl,hb⟩;replace H:=jq (H.out.here hb);clear hb;go_wp2_with fail
   first|go_ret2|skip
   rw[HRES.out];exact⟨rfl,H.out.bl⟩
  ·rw[if_neg he] at HRES;rw[show decide ((flo q).fmod 2=0)=false by simp[he]] at HEV;clear he;go_wp2_with fail
   refine(HEV.out _ H.out.pw).mono ?_;rintro e w6 ⟨rfl,hb⟩;replace H:=jq (H.out.here hb);clear hb;go_wp2_with fail
   first|go_ret2|skip
   rw[HRES.out];exact⟨rfl,H.out.bl⟩
 ·go_wp2_with fail
  first|go_ret2|skip
  rw[HRES.out];exact⟨rfl,H.out.bl⟩
end
end Go.Proofs.YtokjnjdbnabchaaGreatDoor
