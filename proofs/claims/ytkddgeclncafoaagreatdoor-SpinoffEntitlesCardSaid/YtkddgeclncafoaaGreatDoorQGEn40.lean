/- Rq2, Rq4. -/
import Derived.Test.YtkddgeclncafoaaGreatDoorQGEn30
import Derived.Test.YtkddgeclncafoaaGreatDoorQGEn31
import Derived.Test.YtkddgeclncafoaaGreatDoorQGEn38
import Derived.Deep.DrawnRows
set_option maxRecDepth 20000
set_option maxHeartbeats 2000000
namespace Go.Proofs.YtkddgeclncafoaaGreatDoor
open Go.Lib renaming hid→jq
open Go.RowKit Go.Shelf
section
attribute [local go_sem ↓] Go.wp_at_zero Go.wp_at_succ
theorem ZjJ(n:Int)(hn:n≠0):∃l b,Qa n=l++[b]/\48<=b.toNat/\b.toNat<=57/\b.toNat%2=n.natAbs%2:=by
 rw[Yp,Xx n.natAbs (by omega)];refine⟨(if n<0 then[45] else[])++QS (n.natAbs/10),UInt8.ofNat (48+n.natAbs%10),by simp,?_⟩
 have h:(UInt8.ofNat (48+n.natAbs%10)).toNat=48+n.natAbs%10:=by
  rw[UInt8.toNat_ofNat'];omega
 rw[h];omega
theorem ZoX(n:Int):decide (n.fmod 2=0)=decide (n.natAbs%2=0):=by
 rw[Bool.eq_iff_iff,decide_eq_true_eq,decide_eq_true_eq];have h1:=Int.mul_fdiv_add_fmod n 2;have h2:=Int.fmod_nonneg_of_pos n (show(0:Int)<2 by omega);have h3:=Int.fmod_lt_of_pos n (show(0:Int)<2 by omega);omega
theorem ZhF(a:List UInt8)(w:World)(ha:a.length<=1000000000):Calls Tryz.prog 176 #[S a] w fun e w'=>e=.returned (.bool (decide ((val a).fmod 2=0)))/\w=w':=by
 have HC:=jq (fun W=>Yg a W ha)
 have hl:(Qa (val a)).length<=1000000001:=by
  have:=Qg (n:=val a) (L:=a.length) (Qv (Nat.le_refl _))
  omega
 rw[ZoX];clear ha
 by_cases h0:val a=0
 ·rw[h0] at HC ⊢;rw[show Qa 0=[] from rfl] at HC;clear h0 hl;unfold S at*
  go_enter Tryz.func176,Tryz.ntmps176
  go_wp2_with fail
  refine(HC.out _).mono ?_;rintro e w1 ⟨rfl,rfl⟩;go_wp2_with fail
  first|go_ret|skip
  exact⟨rfl,rfl⟩
 ·obtain⟨l,b,hb,h1,h2,h3⟩:=ZjJ _ h0
  rw[hb] at HC hl;have hk:(l++[b])[l.length]?=some b:=by simp
  have hln:(l++[b]).length=l.length+1:=by simp
  have hsz:(⟨(l++[b]).toArray⟩:ByteArray).size=l.length+1:=by rw[Qm,hln]
  have hks:l.length<(⟨(l++[b]).toArray⟩:ByteArray).size:=by omega
  have hbk:(⟨(l++[b]).toArray⟩:ByteArray)[l.length]=b:=YX hk hks;have hne:((l++[b])==[])=false:=by simp
  have hem:(l++[b]).isEmpty=false:=by simp
  rw[<-h3];clear h0 h3 hk;rw[hln] at hl;generalize l++[b]=t at*;generalize l.length=k at*;unfold S at*
  by_cases hp:b.toNat%2=0
  ·have hpar:((b.toNat:Int)-48)%2=0:=by omega
   rw[decide_eq_true hp];clear hp hln;go_enter Tryz.func176,Tryz.ntmps176
   go_wp2_with fail
   refine(HC.out _).mono ?_;rintro e w1 ⟨rfl,rfl⟩;go_wp2_with fail
   first|go_ret|skip
   exact⟨rfl,rfl⟩
  ·have hpar:((b.toNat:Int)-48)%2=1:=by omega
   rw[decide_eq_false hp];clear hp hln;go_enter Tryz.func176,Tryz.ntmps176
   go_wp2_with fail
   refine(HC.out _).mono ?_;rintro e w1 ⟨rfl,rfl⟩;go_wp2_with fail
   first|go_ret|skip
   exact⟨rfl,rfl⟩
theorem Zl4(q:Rat):QK (q-((QW q:Int):Rat)) 0=if VE q=0 then 0 else 1:=by
 have h:=ZbV q
 by_cases h0:VE q=0
 ·rw[if_pos h0,(Zfx q).1 h0];rfl
 ·rw[if_neg h0];unfold QK;have h1:q-((QW q:Int):Rat)≠0:=fun e=>h0 ((Zfx q).2 e)
  rw[if_neg (Rat.not_lt.2 h),if_pos (Rat.lt_of_le_of_ne h (Ne.symm h1))]
theorem Zl5(q:Rat):QK (q-((QW q:Int):Rat)) (Rat.divInt 1 2)=Qt (VE q+VE q-q.den):=by
 rw[Zcc,ZbS _ _ (by have:=q.den_pos;omega) (by omega)]
 congr 1
 omega
theorem Zdx(f:Fr)(hf:f.Sz 5000):XB 132 #[Qq f,.int .i64 1] (S (Qa (rnd f.rat))):=by
 intro w hp;have H:=jq ((Kp.start hp).new w.1.size rfl #[.string ⟨f.n.toArray⟩,.string ⟨f.d.toArray⟩] 26);have hFL:=fun W=>Jw f W (hf.more (by omega))
 obtain⟨K,hK⟩:∃K:Nat,K=5000:=⟨_,rfl⟩
 have hsz:RB K f.rat:=by rw[<-hK] at hf;exact Zcq hf (by omega)
 have hlo:=ZhE hsz (by omega);have l1:=Qg hlo;have z1:(Qd ((QW f.rat:Int):Rat)).Sz (K+1+1):=QV (ZaU hlo (by omega));have z2:(Qd (f.rat-((QW f.rat:Int):Rat))).Sz (K+1):=QV (Znv hsz);have z3:(Qd (Rat.divInt 1 2)).Sz (1+1):=QV (by unfold RB;decide+kernel);have z4:(Qd ((0:Int):Rat)).Sz (1+1):=QV (by unfold RB;decide+kernel);have HFL:=jq hFL;have HO:=jq (fun W=>VH (Qa (QW f.rat)) W (by omega));rw[Qc] at HO;have HSB:=jq (fun W=>Zbl f (Qd ((QW f.rat:Int):Rat)) W (hf.more (by omega)) (z1.more (by omega)));rw[Qj] at HSB;have HZ:=jq (fun W=>VH [] W (by simp));rw[Xr] at HZ;have HC0:=jq (fun W=>Xh (Qd (f.rat-((QW f.rat:Int):Rat))) (Qd ((0:Int):Rat)) W (z2.more (by omega)) (z4.more (by omega)));rw[Qj,Qj,show((0:Int):Rat)=0 from rfl,Zl4] at HC0;have HAD:=jq (fun W=>Yi (Qa (QW f.rat)) [49] W (by omega) (by simp));rw[Qc,XS] at HAD;have HNW:=jq (fun W=>Zc3 ⟨[49],[50]⟩ W ⟨by simp,by simp⟩);rw[show Zc2 ⟨[49],[50]⟩=(Qd (Rat.divInt 1 2),0) by decide+kernel] at HNW;have HCH:=jq (fun W=>Xh (Qd (f.rat-((QW f.rat:Int):Rat))) (Qd (Rat.divInt 1 2)) W (z2.more (by omega)) (z3.more (by omega)));rw[Qj,Qj,Zl5] at HCH;have HCN:=jq (fun W=>Xh f (Qd ((0:Int):Rat)) W (hf.more (by omega)) (z4.more (by omega)));have HEV:=jq (fun W=>ZhF (Qa (QW f.rat)) W (by omega));rw[Qc] at HEV;have HRC:=jq (ZfQ f.rat);clear hFL hf hp hK hsz hlo l1 z1 z2 z3 z4;rw[show((0:Int):Rat)=0 from rfl] at HZ HCN;generalize QK f.rat (Qd 0).rat=sn at*;generalize Qd (f.rat-((QW f.rat:Int):Rat))=rest at*;generalize Qd ((QW f.rat:Int):Rat)=ffl at*;generalize Qd (Rat.divInt 1 2)=half at*;generalize Qd 0=zero at*;generalize f.rat=q at*;obtain⟨tf,htf⟩:∃t,t=Qa (QW q):=⟨_,rfl⟩
 have HTF:=jq htf;rw[<-htf] at HFL HO HAD HEV;clear htf;have x0:(w.alloc (.cells #[.string ⟨f.n.toArray⟩,.string ⟨f.d.toArray⟩] 26)).cell? ⟨w.1.size,0,none⟩=some (.string ⟨f.n.toArray⟩):=H.out.c 0 0 rfl rfl;have x1:(w.alloc (.cells #[.string ⟨f.n.toArray⟩,.string ⟨f.d.toArray⟩] 26)).cell? ⟨w.1.size,1,none⟩=some (.string ⟨f.d.toArray⟩):=H.out.c 0 1 rfl rfl;unfold Qh Qo Qn Xt Qq at*
 unfold S at*
 go_enter Tryz.func132,Tryz.ntmps132
 go_wp2_with fail
 generalize w.alloc _=W at*;refine(HFL.out _).mono ?_;rintro e w1 ⟨rfl,hb⟩;replace H:=jq (H.out.here hb);clear hb x0 x1;go_upto_region 2 with (fail)
 go_cut [6] (fun u wc=>∃p:Nat,u=.pointer (some ⟨p,0,none⟩)/\Hid (Kp w [(p,#[.string ⟨rest.n.toArray⟩,.string ⟨rest.d.toArray⟩],26),(w.1.size,#[.string ⟨f.n.toArray⟩,.string ⟨f.d.toArray⟩],26)] wc))
 case first=>
  have hS:=jq (fun X (h:Bz w1 X)=>(show X.cell? ⟨w.1.size,0,none⟩=some (.string ⟨f.n.toArray⟩)/\X.cell? ⟨w.1.size,1,none⟩=some (.string ⟨f.d.toArray⟩) from⟨(H.out.here h).c 0 0 rfl rfl,(H.out.here h).c 0 1 rfl rfl⟩))
  go_region_held3 (fun w'=>w'.cell? ⟨w.1.size,0,none⟩=some (.string ⟨f.n.toArray⟩)/\w'.cell? ⟨w.1.size,1,none⟩=some (.string ⟨f.d.toArray⟩))
   (first|(exact hS.out _ (by repeat' (first|assumption|exact Bz.refl _|refine Bz.drew ?_|refine Bz.alloc ?_ _|refine Bz.set ?_ (by first|assumption|exact Nat.le_refl _|exact Bz.size (by assumption)) _ _)))|go_keep)
   (first
     |(go_at_call 33;refine(HO.out _).mono ?_;rintro e v1 ⟨rfl,hb1⟩;(try unfold Qq S);have hz1:Bz w1 v1:=Bz.call (by repeat' (first|assumption|exact Bz.refl _|refine Bz.drew ?_|refine Bz.alloc ?_ _|refine Bz.set ?_ (by first|assumption|exact Nat.le_refl _|exact Bz.size (by assumption)) _ _)) hb1
       first|(have q1:BlkB v1 w1.1.size #[.string ⟨#[]⟩,.string ⟨#[]⟩] 26:=BlkB.here (w:=(w1.alloc (.cells #[.string ⟨#[]⟩,.string ⟨#[]⟩] 26)).drew) (heap_alloc_new w1 _) hb1)|skip)
     |(go_at_call 60;refine(HSB.out _).mono ?_;rintro e v2 ⟨rfl,hb2⟩;(try unfold Qq S);have hz2:Bz w1 v2:=Bz.call (by repeat' (first|assumption|exact Bz.refl _|refine Bz.drew ?_|refine Bz.alloc ?_ _|refine Bz.set ?_ (by first|assumption|exact Nat.le_refl _|exact Bz.size (by assumption)) _ _)) hb2
       first
        |(have q2:=q1.here hb2;have n0:=q2.cell 0 rfl;have n1:=q2.cell 1 rfl;have g0:=q2.frozen 0;have g1:=q2.frozen 1)
        |(have q2:BlkB v2 v1.1.size #[.string ⟨#[]⟩,.string ⟨#[]⟩] 26:=BlkB.here (w:=v1.alloc (.cells #[.string ⟨#[]⟩,.string ⟨#[]⟩] 26)) (heap_alloc_new v1 _) hb2;have n0:=q2.cell 0 rfl;have n1:=q2.cell 1 rfl;have g0:=q2.frozen 0;have g1:=q2.frozen 1)
        |skip))
  all_goals
   go_wp2_with fail
   go_meet
   first
    |exact⟨_,rfl,(H.out.join hz2 q2 (by first|exact Nat.le_refl _|exact hz1.size)).set2 _ _⟩
    |exact⟨_,rfl,(H.out.here hz2).new _ rfl _ _⟩
    |exact⟨_,rfl,((H.out.here hz2).new _ rfl _ _).set2 _ _⟩
 case rest=>
 clear H HO HSB HFL;obtain⟨p,rfl,H⟩:=hcut
 go_wp2_with fail
 refine(HZ.out _).mono ?_;rintro e w3 ⟨rfl,hb⟩;replace H:=jq ((H.out.here hb).new w3.1.size rfl #[.string ⟨zero.n.toArray⟩,.string ⟨zero.d.toArray⟩] 26);clear hb HZ;go_upto_region 4 with (fail)
 generalize w3.alloc _=W3 at*;generalize w3.1.size=pz at*;have c0:=H.out.c 0 0 rfl rfl;have c1:=H.out.c 0 1 rfl rfl;have d0:=H.out.c 1 0 rfl rfl;have d1:=H.out.c 1 1 rfl rfl
 rcases HRC.out with ⟨hr,hres⟩|⟨hr,hs,hres⟩|⟨hr,hs,hres⟩|⟨hr,hs,hres⟩
 ·rw[if_pos hr] at HC0;have HRES:=jq hres;clear hr hres HRC;go_wp2_with fail
  refine(HC0.out _).mono ?_;rintro e w4 ⟨rfl,hb⟩;go_wp2_with fail
  first|go_ret|skip
  rw[HRES.out,<-HTF.out];exact⟨rfl,(H.out.here hb).bl⟩
 all_goals
  rw[if_neg hr] at HC0;rw[hs] at HCH;have HRES:=jq hres;clear hr hs hres HRC;go_wp2_with fail
  refine(HC0.out _).mono ?_;rintro e w4 ⟨rfl,hb⟩;replace H:=jq (H.out.here hb);clear hb c0 c1 d0 d1 HC0;go_wp2_with fail
  refine(HAD.out _).mono ?_;rintro e w5 ⟨rfl,hb⟩;replace H:=jq (H.out.here hb);clear hb HAD;go_wp2_with fail
  refine(HNW.out _).mono ?_;rintro e w6 ⟨rfl,hb⟩;replace H:=jq ((H.out.here hb).new w6.1.size rfl #[.string ⟨half.n.toArray⟩,.string ⟨half.d.toArray⟩] 26);clear hb HNW;go_upto_region 8 with (fail)
  generalize w6.alloc _=W6 at*;generalize w6.1.size=ph at*;have c0:=H.out.c 0 0 rfl rfl;have c1:=H.out.c 0 1 rfl rfl;have d0:=H.out.c 2 0 rfl rfl;have d1:=H.out.c 2 1 rfl rfl;go_wp2_with fail
  refine(HCH.out _).mono ?_;rintro e w7 ⟨rfl,hb⟩;replace H:=jq (H.out.here hb);clear hb c0 c1 d0 d1 HCH;have c0:=H.out.c 1 0 rfl rfl;have c1:=H.out.c 1 1 rfl rfl;have d0:=H.out.c 3 0 rfl rfl;have d1:=H.out.c 3 1 rfl rfl;go_wp2_with fail
  refine(HCN.out _).mono ?_;rintro e w8 ⟨rfl,hb⟩;replace H:=jq (H.out.here hb);clear hb c0 c1 d0 d1 HCN
 ·go_wp2_with fail
  first|go_ret|skip
  rw[HRES.out,<-HTF.out];exact⟨rfl,H.out.bl⟩
 ·by_cases he:(QW q).fmod 2=0
  ·rw[if_pos he] at HRES;rw[show decide ((QW q).fmod 2=0)=true by simp[he]] at HEV;clear he;go_wp2_with fail
   refine(HEV.out _).mono ?_;rintro e w9 ⟨rfl,rfl⟩;go_wp2_with fail
   first|go_ret|skip
   rw[HRES.out,<-HTF.out];exact⟨rfl,H.out.bl⟩
  ·rw[if_neg he] at HRES;rw[show decide ((QW q).fmod 2=0)=false by simp[he]] at HEV;clear he;go_wp2_with fail
   refine(HEV.out _).mono ?_;rintro e w9 ⟨rfl,rfl⟩;go_wp2_with fail
   first|go_ret|skip
   rw[HRES.out];exact⟨rfl,H.out.bl⟩
 ·go_wp2_with fail
  first|go_ret|skip
  rw[HRES.out];exact⟨rfl,H.out.bl⟩
theorem ZhG(w:World):Calls Tryz.prog 131 #[.int .i64 1] w fun e w'=>e=.returned (.bool true)/\w=w':=by
 go_enter Tryz.func131,Tryz.ntmps131
 go_wp2_with fail
 first|go_ret|skip
 exact⟨rfl,rfl⟩
theorem Zgr(f:Fr)(hf:f.Sz 5000):XB 76 #[Qq f,.int .i64 1] (.tuple #[S (Qa (rnd f.rat)),.int .i64 0]):=by
 intro w hp;have H:=jq ((Kp.start hp).new w.1.size rfl #[.string ⟨f.n.toArray⟩,.string ⟨f.d.toArray⟩] 26);have HM:=jq ZhG;have HR:=jq (Zdx f hf);have x0:(w.alloc (.cells #[.string ⟨f.n.toArray⟩,.string ⟨f.d.toArray⟩] 26)).cell? ⟨w.1.size,0,none⟩=some (.string ⟨f.n.toArray⟩):=H.out.c 0 0 rfl rfl;have x1:(w.alloc (.cells #[.string ⟨f.n.toArray⟩,.string ⟨f.d.toArray⟩] 26)).cell? ⟨w.1.size,1,none⟩=some (.string ⟨f.d.toArray⟩):=H.out.c 0 1 rfl rfl;generalize Qa (rnd f.rat)=res at*;clear hf hp;unfold Qq at*
 unfold S at*
 go_enter Tryz.func76,Tryz.ntmps76
 go_wp2_with fail
 generalize w.alloc _=W at*;refine(HM.out _).mono ?_;rintro e w1 ⟨rfl,rfl⟩;go_wp2_with fail
 refine(HR.out _ H.out.pw).mono ?_;rintro e w2 ⟨rfl,hb⟩;go_wp2_with fail
 first|go_ret2|skip
 exact⟨rfl,(H.out.here hb).bl⟩
end
section
theorem Zeg(f:Fr)(w:World)(hf:f.Sz 20000)(h0:0<=f.rat):Calls Tryz.prog 126 #[Qq f] w (Qh f w):=by
 have HC:=jq (fun W=>Xh f ⟨[],[]⟩ W hf ⟨by simp,by simp⟩);rw[show(⟨[],[]⟩:Fr).rat=0 from VX] at HC;have hlt:=Znx f.rat 0;rw[decide_eq_false (Rat.not_lt.2 h0)] at hlt;have HPO:=jq (show Qh f w=fun e w'=>e=.returned (Qq f)/\Below w.1.size w w' from rfl);generalize Qh f w=post at*;have HK:∀W,Below w.1.size w W->BlkB W w.1.size #[.string ⟨f.n.toArray⟩,.string ⟨f.d.toArray⟩] 26->True:=fun _ _ _=>trivial
 clear HK;have hbA:=((Below.refl w.1.size w).alloc (Nat.le_refl _) (.cells #[.string ⟨f.n.toArray⟩,.string ⟨f.d.toArray⟩] 26)).alloc (by simp) (.cells #[.string ⟨#[]⟩,.string ⟨#[]⟩] 26);have hb0:BlkB ((w.alloc (.cells #[.string ⟨f.n.toArray⟩,.string ⟨f.d.toArray⟩] 26)).alloc (.cells #[.string ⟨#[]⟩,.string ⟨#[]⟩] 26)) w.1.size #[.string ⟨f.n.toArray⟩,.string ⟨f.d.toArray⟩] 26:=BlkB.alloc (heap_alloc_new w _) _
 have hb1:BlkB ((w.alloc (.cells #[.string ⟨f.n.toArray⟩,.string ⟨f.d.toArray⟩] 26)).alloc (.cells #[.string ⟨#[]⟩,.string ⟨#[]⟩] 26)) (w.1.size+1) #[.string ⟨#[]⟩,.string ⟨#[]⟩] 26:=by
  have h:=heap_alloc_new (w.alloc (.cells #[.string ⟨f.n.toArray⟩,.string ⟨f.d.toArray⟩] 26)) (.cells #[.string ⟨#[]⟩,.string ⟨#[]⟩] 26);rw[show(w.alloc (.cells #[.string ⟨f.n.toArray⟩,.string ⟨f.d.toArray⟩] 26)).heap.size=w.1.size+1 by simp] at h;exact h
 have c0:=hb0.cell 0 rfl;have c1:=hb0.cell 1 rfl;have HBA:=jq hbA;have HB0:=jq hb0;have HB1:=jq hb1;clear hbA hb0 hb1 hf h0;generalize QK f.rat 0=z at*;unfold Qn Qq at*
 unfold S at*
 go_enter Tryz.func126,Tryz.ntmps126
 go_wp2_with fail
 generalize ((w.alloc (.cells #[.string ⟨f.n.toArray⟩,.string ⟨f.d.toArray⟩] 26)).alloc (.cells #[.string ⟨#[]⟩,.string ⟨#[]⟩] 26))=W at*;refine(HC.out _).mono ?_;rintro e w1 ⟨rfl,hb⟩;have B0:=HB0.out.here hb;have B1:=HB1.out.here hb;have d0:=B0.cell 0 rfl;have d1:=B0.cell 1 rfl;have e0:=B1.cell 0 rfl;have e1:=B1.cell 1 rfl;have f0:=B1.frozen 0;have f1:=B1.frozen 1;have HB9:=jq (HBA.out.trans (hb.mono HBA.out.size));clear c0 c1 hb B0 B1;go_wp2_with fail
 refine bodyPost_ret (v:=.agg #[.string ⟨f.n.toArray⟩,.string ⟨f.d.toArray⟩]) (by simp[results,Tryz.results126,go_sem,e0,e1]) rfl ?_;rw[HPO.out];exact⟨rfl,(HB9.out.setCell (p:=⟨w.1.size+1,0,none⟩) (by simp only;omega) _).setCell (p:=⟨w.1.size+1,1,none⟩) (by simp only;omega) _⟩
theorem ZhH(t:List UInt8)(A:Option Addr)(n c:Nat)(ws:List (List UInt8))(w:World)(hs:Yu w w.1.size A n ws)(ht:t.length<=1000)(hl:∀x∈ws,x.length<=1000)(hn:n<=1000)(hok:QN t ws=0):
 Calls Tryz.prog 125 #[S t,.slice A n c] w (Zfb t ws n w):=by
 have HPO:=jq (show Zfb t ws n w=fun e w'=>∃A' c',e=.returned (.tuple #[.slice A' n c',.int .i64 0])/\Own F2 2 26 w' w.1.size (.slice A' n c') (idl t ws)/\Below w.1.size w w' from rfl);generalize Zfb t ws n w=post at*
 have hS:Qz ws≠0:=by
  unfold QN at hok;intro h;rw[if_pos h] at hok
  revert hok
  repeat' split
  all_goals decide
 have hwn:=hs.1
 have hsl:(Qa (Qz ws)).length<=1005:=by
  have h:=VM (ws:=ws) (L:=1000) hl (by omega) ws.length;rw[List.take_length] at h;omega
 have HCK:=jq (fun W (hb:Below w.1.size w W)=>Zgu t A n c ws W (hs.here hb) (by omega) (fun x hx=>by have:=hl x hx;omega) (by omega));rw[hok] at HCK;have HWH:=jq (fun W (hb:Below w.1.size w W)=>ZbQ A n c ws W (hs.here hb) (fun x hx=>by have:=hl x hx;omega) (by omega));have HMU:=jq (fun x (hx:x∈ws) W=>Yj t x W (by omega) (by have:=hl x hx;omega))
 have HNW:=jq (fun x (hx:x∈ws) W=>Zc3 ⟨Qa (val t*val x),Qa (Qz ws)⟩ W ⟨by
  have:=Za5 (L:=1000) ht (hl x hx)
  show(Qa _).length<=_
  omega,by show(Qa _).length<=_;omega⟩)
 have HNL:=jq (show ∀x,Zc2 ⟨Qa (val t*val x),Qa (Qz ws)⟩=(Qd (Rat.divInt (val t*val x) (Qz ws)),0) from fun x=>by
  unfold Zc2;have hd:val (Qa (Qz ws))≠0:=by rw[Qc];exact hS
  rw[if_neg hd];unfold Fr.rat Fr.dv;rw[if_neg hd];simp only[Qc])
 simp only[HNL.out] at HNW;obtain⟨g,hg⟩:∃g:List UInt8->Fr,g=fun x=>Qd (Rat.divInt (val t*val x) (Qz ws)):=⟨_,rfl⟩
 have HID:=jq (show idl t ws=ws.map g from by rw[hg];rfl);have HG:=jq (fun x=>show Qd (Rat.divInt (val t*val x) (Qz ws))=g x by rw[hg]);simp only[HG.out] at HNW;generalize idl t ws=il at*;generalize Qa (Qz ws)=ts at*;have HS:=jq hs;have HN:=jq (show n=ws.length from hwn);have HB0:=jq (Below.refl w.1.size w);have HN1:=jq hn;clear hs ht hl hn hok hS hwn hsl hg HNL HG;unfold Qn at HCK;unfold Qo S at HWH HMU;unfold Xt Qq S at HNW;unfold S;go_enter Tryz.func125,Tryz.ntmps125
 go_wp2_with fail
 refine(HCK.out _ HB0.out).mono ?_;rintro e w1 ⟨rfl,hb⟩;replace HB0:=jq hb;clear hb;go_wp2_with fail
 refine(HWH.out _ HB0.out).mono ?_;rintro e w2 ⟨rfl,hb⟩;have HB2:=jq (HB0.out.trans (hb.mono HB0.out.size));clear hb HB0;go_wp2_with fail
 go_loopw [8,9,10,11] (fun s j _ _ wr=>∃(k:Nat) (A3:Option Addr) (c3:Nat),k<=n/\j=.int .i64 k/\s=.slice A3 k c3/\Hid (Own F2 2 26 wr w.1.size (.slice A3 k c3) ((ws.take k).map g))/\Hid (Below w.1.size w wr)) (fun _ j _ _ _=>n-(intOf j).toNat)
 case atStart=>exact⟨0,none,0,Nat.zero_le _,rfl,rfl,Own.nil,HB2⟩
 case round=>
  clear HB2;obtain⟨k,A3,c3,hk,rfl,rfl,HOW,HBR⟩:=hrel
  by_cases hlt:k<n
  ·obtain⟨b,off,x,rfl,hb,hx,d0⟩:=(HS.out.below HBR.out).st hlt
   have hxm:=List.mem_of_getElem? hx
   have HTK:=jq (show(ws.take (k+1)).map g=(ws.take k).map g++[g x] by
    obtain⟨h1,h2⟩:=List.getElem?_eq_some_iff.1 hx
    rw[List.take_succ_eq_append_getElem h1,h2,List.map_append];rfl)
   have HM1:=jq (HMU.out x hxm);have HN2:=jq (HNW.out x hxm);have HKN:=jq (show((ws.take k).map g).length=k by rw[List.length_map,List.length_take];have:=HN.out;omega);generalize (ws.take k).map g=kl at*;generalize Qa (val t*val x)=tm at*;generalize g x=fx at*;clear hx hxm hk;have hk1:=HN1.out;go_wp2_with fail
   refine(HM1.out _).mono ?_;rintro e w3 ⟨rfl,hb3⟩;have HB3:=jq (HBR.out.trans (hb3.mono HBR.out.size));have HO3:=jq (HOW.out.below hb3);clear hb3 d0;go_wp2_with fail
   refine(HN2.out _).mono ?_;rintro e w4 ⟨rfl,hb4⟩;have HB4:=jq ((HB3.out.trans (hb4.mono HB3.out.size)).alloc (Nat.le_trans HB3.out.size hb4.size) (.cells #[.string ⟨fx.n.toArray⟩,.string ⟨fx.d.toArray⟩] 26));have HO4:=jq ((HO3.out.below hb4).alloc (.cells #[.string ⟨fx.n.toArray⟩,.string ⟨fx.d.toArray⟩] 26));have hbk:BlkB (w4.alloc (.cells #[.string ⟨fx.n.toArray⟩,.string ⟨fx.d.toArray⟩] 26)) w4.1.size #[.string ⟨fx.n.toArray⟩,.string ⟨fx.d.toArray⟩] 26:=heap_alloc_new w4 _;have k0:=hbk.cell 0 rfl;have k1:=hbk.cell 1 rfl;clear hb4 hbk HB3 HO3;go_upto_region 10 with (fail)
   generalize (w4.alloc _)=W4 at*;have HA2:=jq (HB4.out.alloc HB4.out.size (.cells #[.string ⟨fx.n.toArray⟩,.string ⟨fx.d.toArray⟩] 26));have HO5:=jq (HO4.out.alloc (.cells #[.string ⟨fx.n.toArray⟩,.string ⟨fx.d.toArray⟩] 26));have HL1:=jq (Zpn (show BlkB (W4.alloc (.cells #[.string ⟨fx.n.toArray⟩,.string ⟨fx.d.toArray⟩] 26)) W4.1.size #[.string ⟨fx.n.toArray⟩,.string ⟨fx.d.toArray⟩] 26 from heap_alloc_new W4 _))
   go_wp2_with (at_builtin;refine Xa _ rfl (.tmp 37) (.tmp 39) _ rfl ZnC Zby ZnB (base:=w.1.size) (.slice A3 _ c3) kl rfl HO5.out _ _ 1 1 [fx] rfl HL1.out (by rw[HKN.out];omega) HA2.out.size ?_
                intro A4 c4 w6 ho4 hg4 _)
   go_roundw
   case rel=>
    rw[HKN.out] at ho4;exact⟨k+1,A4,c4,by omega,by go_num,by rw[HKN.out],(show Own _ _ _ _ _ _ _ by rw[HTK.out];exact ho4),Qy HA2.out hg4 HA2.out.size (fun g hg=>ZnA HO5.out hg)⟩
   case measure=>simp[intOf];omega
  ·obtain rfl:k=n:=by omega
   have HE:=jq (show(ws.take k).map g=ws.map g by rw[List.take_of_length_le (by have:=HN.out;omega)]);go_wp2_with fail
   first|go_ret|skip
   rw[HPO.out,HID.out];rw[HE.out] at HOW;exact⟨A3,c3,rfl,HOW.out,HBR.out⟩
end
end Go.Proofs.YtkddgeclncafoaaGreatDoor
