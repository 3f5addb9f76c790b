/- Rq9. -/
import Derived.Test.YtkddgeclncafoaaGreatDoorQGEn40
import Derived.Test.YtkddgeclncafoaaGreatDoorQGEn17
set_option maxRecDepth 20000
set_option maxHeartbeats 2000000
namespace Go.Proofs.YtkddgeclncafoaaGreatDoor
open Go.Lib renaming hid→jq
section
open Go.RowKit Go.Shelf
attribute [local go_sem ↓] Go.wp_at_zero Go.wp_at_succ
def Zdy(q:List UInt8)(f:Fr):List UInt8×Fr×Int:=
 if QH q=false\/¬f.ok then([],Fr.zero,1) else if val q<0\/f.rat<=0 then([],Fr.zero,2)
 else(Qa (QW (((val q:Int):Rat)*f.rat)),Qd (((val q:Int):Rat)*f.rat-((QW (((val q:Int):Rat)*f.rat):Int):Rat)),0)
def Ze6(r:List UInt8×Fr×Int)(w:World)(e:Ending)(w':World):Prop:=e=.returned (.tuple #[S r.1,Qq r.2.1,.int .i64 r.2.2])/\Below w.1.size w w'
theorem Zgs(q:List UInt8)(f:Fr)(w:World)(hp:Env w)(hq:q.length<=2000)(hf:f.Sz 2000):
 Calls Tryz.prog 21 #[S q,Qq f] w (Ze6 (Zdy q f) w):=by
 have HPO:=jq (show Ze6 (Zdy q f) w=fun e w'=>e=.returned (.tuple #[S (Zdy q f).1,Qq (Zdy q f).2.1,.int .i64 (Zdy q f).2.2])/\Below w.1.size w w' from rfl);have HSC:=jq (show Zdy q f=if QH q=false\/¬f.ok then([],Fr.zero,1) else if val q<0\/f.rat<=0 then([],Fr.zero,2) else(Qa (QW (((val q:Int):Rat)*f.rat)),Qd (((val q:Int):Rat)*f.rat-((QW (((val q:Int):Rat)*f.rat):Int):Rat)),0) from rfl);generalize Ze6 (Zdy q f) w=post at*;generalize Zdy q f=res at*;have H:=jq (show Kp w [(w.1.size+1,#[.string ⟨#[]⟩,.string ⟨#[]⟩],26),(w.1.size,#[.string ⟨f.n.toArray⟩,.string ⟨f.d.toArray⟩],26)] ((w.alloc (.cells #[.string ⟨f.n.toArray⟩,.string ⟨f.d.toArray⟩] 26)).alloc (.cells #[.string ⟨#[]⟩,.string ⟨#[]⟩] 26)) from((Kp.start hp).new w.1.size rfl _ _).new (w.1.size+1) (by simp) _ _);have HCQ:=jq (fun W=>XV q W (by omega));have HCF:=jq (fun W=>Zc1 f W (hf.more (by omega)));have HK:=jq (ZjK f);have HSG:=jq (fun W=>QX q [] W (by omega) (by simp));rw[Xr,Int.sub_zero] at HSG;have HCM:=jq (fun W=>Xh f ⟨[],[]⟩ W (hf.more (by omega)) ⟨by simp,by simp⟩);rw[show(⟨[],[]⟩:Fr).rat=0 from VX] at HCM;have E1:=jq (Zcj (val q));have E2:=jq (Znw f.rat 0);obtain⟨K,hK⟩:∃K:Nat,K=2000:=⟨_,rfl⟩
 rw[<-hK] at hq hf;have hiq:=ZaU (Qv hq) (show 1<=K by omega);have hex:=Ze5 hiq (Zcq hf (by omega));have z1:=QV hiq;have z2:=QV hex;have hlo:=ZhE hex (by omega);have l1:=Qg hlo;have z3:=QV (ZaU hlo (by omega));have HO1:=jq (fun W=>VH q W (by omega));have HMU:=jq (fun W=>Zf6 (Qd ((val q:Int):Rat)) f W (z1.more (by omega)) (hf.more (by omega)));rw[Qj] at HMU;have HFL:=jq (fun W=>Jw (Qd (((val q:Int):Rat)*f.rat)) W (z2.more (by omega)));rw[Qj] at HFL;have HO2:=jq (fun W=>VH (Qa (QW (((val q:Int):Rat)*f.rat))) W (by omega));rw[Qc] at HO2;have HSB:=jq (fun W=>Zbl (Qd (((val q:Int):Rat)*f.rat)) (Qd ((QW (((val q:Int):Rat)*f.rat):Int):Rat)) W (z2.more (by omega)) (z3.more (by omega)));rw[Qj,Qj] at HSB;clear hp hq hf hK hiq hex z1 z2 hlo l1 z3;generalize Qd (((val q:Int):Rat)*f.rat-((QW (((val q:Int):Rat)*f.rat):Int):Rat))=fd at*;generalize Qd ((QW (((val q:Int):Rat)*f.rat):Int):Rat)=ff at*;generalize Qa (QW (((val q:Int):Rat)*f.rat))=tn at*;generalize Qd (((val q:Int):Rat)*f.rat)=fa at*;generalize Qd ((val q:Int):Rat)=fo at*;generalize QK f.rat 0=z at*;generalize Qt (val q)=sg at*
 have HSC2:=jq (show res=if QH q=false\/decide f.ok=false then([],Fr.zero,1) else if decide (val q<0)=true\/decide (f.rat<=0)=true then([],Fr.zero,2) else(tn,fd,0) by
  rw[HSC.out];simp only[decide_eq_true_eq,decide_eq_false_iff_not])
 clear HSC;generalize decide (val q<0)=b1 at*;generalize decide (f.rat<=0)=b2 at*;generalize decide f.ok=o1 at*;generalize Vb f=cf at*;generalize QH q=cq at*;have x0:=H.out.c 1 0 rfl rfl;have x1:=H.out.c 1 1 rfl rfl;have y0:=H.out.c 0 0 rfl rfl;have y1:=H.out.c 0 1 rfl rfl;have f0:=H.out.f 0 0 rfl;have f1:=H.out.f 0 1 rfl;unfold Qn Qh Qo Qq at*
 unfold S at*
 go_enter Tryz.func21,Tryz.ntmps21
 go_wp2_with fail
 generalize ((w.alloc (.cells #[.string ⟨f.n.toArray⟩,.string ⟨f.d.toArray⟩] 26)).alloc (.cells #[.string ⟨#[]⟩,.string ⟨#[]⟩] 26))=W at*;refine(HCQ.out _).mono ?_;rintro e w1 ⟨rfl,rfl⟩
 cases cq with
 |false=>
  rw[if_pos (.inl rfl)] at HSC2;go_wp2_with fail
  refine bodyPost_ret (v:=.tuple #[.string ⟨#[]⟩,.agg #[.string ⟨#[]⟩,.string ⟨#[]⟩],.int .i64 1]) (by simp[results,Tryz.results21,go_sem,y0,y1]) rfl ?_;rw[HPO.out,HSC2.out];exact⟨rfl,(H.out.set2 _ _).bl⟩
 |true=>
 go_wp2_with fail
 refine(HCF.out _).mono ?_;rintro e w1 ⟨rfl,hb⟩;replace H:=jq (H.out.here hb);clear hb x0 x1 y0 y1 f0 f1;have x0:=H.out.c 1 0 rfl rfl;have x1:=H.out.c 1 1 rfl rfl;have y0:=H.out.c 0 0 rfl rfl;have y1:=H.out.c 0 1 rfl rfl;have f0:=H.out.f 0 0 rfl;have f1:=H.out.f 0 1 rfl
 rcases HK.out with ⟨rfl,rfl⟩|⟨rfl,rfl⟩
 rotate_left
 ·rw[if_pos (.inr rfl)] at HSC2;go_wp2_with fail
  refine bodyPost_ret (v:=.tuple #[.string ⟨#[]⟩,.agg #[.string ⟨#[]⟩,.string ⟨#[]⟩],.int .i64 1]) (by simp[results,Tryz.results21,go_sem,y0,y1]) rfl ?_;rw[HPO.out,HSC2.out];exact⟨rfl,(H.out.set2 _ _).bl⟩
 rw[if_neg (by simp)] at HSC2;go_wp2_with fail
 refine(HSG.out _).mono ?_;rintro e w2 ⟨rfl,rfl⟩
 by_cases hs:sg<0
 ·rw[decide_eq_true hs] at E1;rw[if_pos (.inl E1.out.symm)] at HSC2;go_wp2_with fail
  refine bodyPost_ret (v:=.tuple #[.string ⟨#[]⟩,.agg #[.string ⟨#[]⟩,.string ⟨#[]⟩],.int .i64 2]) (by simp[results,Tryz.results21,go_sem,y0,y1]) rfl ?_;rw[HPO.out,HSC2.out];exact⟨rfl,(H.out.set2 _ _).bl⟩
 rw[decide_eq_false hs] at E1;go_wp2_with fail
 refine(HCM.out _).mono ?_;rintro e w2 ⟨rfl,hb⟩;replace H:=jq (H.out.here hb);clear hb x0 x1 y0 y1 f0 f1;have x0:=H.out.c 1 0 rfl rfl;have x1:=H.out.c 1 1 rfl rfl;have y0:=H.out.c 0 0 rfl rfl;have y1:=H.out.c 0 1 rfl rfl;have f0:=H.out.f 0 0 rfl;have f1:=H.out.f 0 1 rfl
 by_cases hz:z<=0
 ·rw[decide_eq_true hz] at E2;rw[if_pos (.inr E2.out.symm)] at HSC2;go_wp2_with fail
  refine bodyPost_ret (v:=.tuple #[.string ⟨#[]⟩,.agg #[.string ⟨#[]⟩,.string ⟨#[]⟩],.int .i64 2]) (by simp[results,Tryz.results21,go_sem,y0,y1]) rfl ?_;rw[HPO.out,HSC2.out];exact⟨rfl,(H.out.set2 _ _).bl⟩
 rw[decide_eq_false hz] at E2;rw[if_neg (by rw[<-E1.out,<-E2.out];simp)] at HSC2;clear x0 x1 y0 y1 f0 f1 HCQ HCF HSG HCM HK E1 E2;go_upto_region 5 with (fail)
 go_cut [7] (fun u wc=>∃p:Nat,u=.pointer (some ⟨p,0,none⟩)/\Hid (Kp w [(p,#[.string ⟨fa.n.toArray⟩,.string ⟨fa.d.toArray⟩],26),(w.1.size+1,#[.string ⟨#[]⟩,.string ⟨#[]⟩],26),(w.1.size,#[.string ⟨f.n.toArray⟩,.string ⟨f.d.toArray⟩],26)] wc))
 case first=>
  have hS:=jq (fun X (h:Bz w2 X)=>(show X.cell? ⟨w.1.size,0,none⟩=some (.string ⟨f.n.toArray⟩)/\X.cell? ⟨w.1.size,1,none⟩=some (.string ⟨f.d.toArray⟩) from⟨(H.out.here h).c 1 0 rfl rfl,(H.out.here h).c 1 1 rfl rfl⟩))
  go_region_held3 (fun w'=>w'.cell? ⟨w.1.size,0,none⟩=some (.string ⟨f.n.toArray⟩)/\w'.cell? ⟨w.1.size,1,none⟩=some (.string ⟨f.d.toArray⟩))
   (first|(exact hS.out _ (by repeat' (first|assumption|exact Bz.refl _|refine Bz.drew ?_|refine Bz.alloc ?_ _|refine Bz.set ?_ (by first|assumption|exact Nat.le_refl _|exact Bz.size (by assumption)) _ _)))|go_keep)
   (first
     |(go_at_call 33;refine(HO1.out _).mono ?_;rintro e v1 ⟨rfl,hb1⟩;have hz1:Bz w2 v1:=Bz.call (by repeat' (first|assumption|exact Bz.refl _|refine Bz.drew ?_|refine Bz.alloc ?_ _|refine Bz.set ?_ (by first|assumption|exact Nat.le_refl _|exact Bz.size (by assumption)) _ _)) hb1
       first|(have q1:BlkB v1 w2.1.size #[.string ⟨#[]⟩,.string ⟨#[]⟩] 26:=BlkB.here (w:=(w2.alloc (.cells #[.string ⟨#[]⟩,.string ⟨#[]⟩] 26)).drew) (heap_alloc_new w2 _) hb1)|skip)
     |(go_at_call 32;refine(HMU.out _).mono ?_;rintro e v2 ⟨rfl,hb2⟩;have hz2:Bz w2 v2:=Bz.call (by repeat' (first|assumption|exact Bz.refl _|refine Bz.drew ?_|refine Bz.alloc ?_ _|refine Bz.set ?_ (by first|assumption|exact Nat.le_refl _|exact Bz.size (by assumption)) _ _)) hb2
       first
        |(have q2:=q1.here hb2;have n0:=q2.cell 0 rfl;have n1:=q2.cell 1 rfl;have g0:=q2.frozen 0;have g1:=q2.frozen 1)
        |(have q2:BlkB v2 v1.1.size #[.string ⟨#[]⟩,.string ⟨#[]⟩] 26:=BlkB.here (w:=v1.alloc (.cells #[.string ⟨#[]⟩,.string ⟨#[]⟩] 26)) (heap_alloc_new v1 _) hb2;have n0:=q2.cell 0 rfl;have n1:=q2.cell 1 rfl;have g0:=q2.frozen 0;have g1:=q2.frozen 1)
        |skip))
  all_goals
   go_wp2_with fail
   go_meet
   first
    |exact⟨_,rfl,(H.out.join hz2 q2 (by first|exact Nat.le_refl _|exact hz1.size)).set2 _ _⟩
    |exact⟨_,rfl,(H.out.here hz2).new _ rfl _ _⟩
    |exact⟨_,rfl,((H.out.here hz2).new _ rfl _ _).set2 _ _⟩
 case rest=>
 clear H HO1 HMU;obtain⟨p,rfl,H⟩:=hcut
 obtain⟨w3,rfl⟩:∃W,W=wc:=⟨_,rfl⟩
 have x0:=H.out.c 0 0 rfl rfl;have x1:=H.out.c 0 1 rfl rfl;go_wp2_with fail
 refine(HFL.out _).mono ?_;rintro e w4 ⟨rfl,hb⟩;replace H:=jq (H.out.here hb);clear hb x0 x1 HFL;go_upto_region 7 with (fail)
 have hS:=jq (fun X (h:Bz w4 X)=>(show X.cell? ⟨p,0,none⟩=some (.string ⟨fa.n.toArray⟩)/\X.cell? ⟨p,1,none⟩=some (.string ⟨fa.d.toArray⟩) from⟨(H.out.here h).c 0 0 rfl rfl,(H.out.here h).c 0 1 rfl rfl⟩));have hS2:=jq (fun X (h:Bz w4 X) u v=>(show((X.setCell ⟨w.1.size+1,0,none⟩ u).setCell ⟨w.1.size+1,1,none⟩ v).cell? ⟨p,0,none⟩=some (.string ⟨fa.n.toArray⟩)/\((X.setCell ⟨w.1.size+1,0,none⟩ u).setCell ⟨w.1.size+1,1,none⟩ v).cell? ⟨p,1,none⟩=some (.string ⟨fa.d.toArray⟩) from⟨(((H.out.here h).set 1 0 rfl u).set 1 1 rfl v).c 0 0 rfl rfl,(((H.out.here h).set 1 0 rfl u).set 1 1 rfl v).c 0 1 rfl rfl⟩))
 go_region_held3 (fun w'=>w'.cell? ⟨p,0,none⟩=some (.string ⟨fa.n.toArray⟩)/\w'.cell? ⟨p,1,none⟩=some (.string ⟨fa.d.toArray⟩))
  (first|(exact hS2.out _ (by assumption) _ _)|(exact hS.out _ (by repeat' (first|assumption|exact Bz.refl _|refine Bz.drew ?_|refine Bz.alloc ?_ _|refine Bz.set ?_ (by first|assumption|exact Nat.le_refl _|exact Bz.size (by assumption)) _ _)))|go_keep)
  (first
    |(go_at_call 33;refine(HO2.out _).mono ?_;rintro e v1 ⟨rfl,hb1⟩;have hz1:Bz w4 v1:=Bz.call (by repeat' (first|assumption|exact Bz.refl _|refine Bz.drew ?_|refine Bz.alloc ?_ _|refine Bz.set ?_ (by first|assumption|exact Nat.le_refl _|exact Bz.size (by assumption)) _ _)) hb1)
    |(go_at_call 60;refine(HSB.out _).mono ?_;rintro e v2 ⟨rfl,hb2⟩;have hz2:Bz w4 v2:=Bz.call (by repeat' (first|assumption|exact Bz.refl _|refine Bz.drew ?_|refine Bz.alloc ?_ _|refine Bz.set ?_ (by first|assumption|exact Nat.le_refl _|exact Bz.size (by assumption)) _ _)) hb2;have n0:=(H.out.here hz2).c 1 0 rfl rfl;have n1:=(H.out.here hz2).c 1 1 rfl rfl;have g0:=(H.out.here hz2).f 1 0 rfl;have g1:=(H.out.here hz2).f 1 1 rfl))
 all_goals
  go_wp2_with fail
  refine bodyPost_ret (v:=.tuple #[.string ⟨tn.toArray⟩,.agg #[.string ⟨fd.n.toArray⟩,.string ⟨fd.d.toArray⟩],.int .i64 0]) (by simp[results,Tryz.results21,go_sem,n0,n1]) rfl ?_;rw[HPO.out,HSC2.out];exact⟨rfl,(((H.out.here hz2).set 1 0 rfl _).set 1 1 rfl _).bl⟩
end
end Go.Proofs.YtkddgeclncafoaaGreatDoor
