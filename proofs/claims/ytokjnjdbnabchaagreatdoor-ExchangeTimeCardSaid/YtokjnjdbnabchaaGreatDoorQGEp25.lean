/- Fa3, Fa6. -/
import Derived.Test.YtokjnjdbnabchaaGreatDoorQGEp12
import Derived.Test.YtokjnjdbnabchaaGreatDoorQGEp39
set_option maxRecDepth 100000
set_option maxHeartbeats 4000000
namespace Go.Proofs.YtokjnjdbnabchaaGreatDoor
open Go.Lib renaming hid→jq
open Go.RowKit Go.Shelf
section
attribute [local go_sem ↓] Go.wp_at_zero Go.wp_at_succ
theorem YW(a:List UInt8)(w:World):Calls Tryz.prog 272 #[S a] w fun e w'=>e=.returned (Qj ⟨a,[]⟩)/\Below w.1.size w w':=by
 have hbA:Below w.1.size w (w.alloc (.cells #[.string ⟨a.toArray⟩,.string ⟨#[]⟩] 28)):=(Below.refl _ _).alloc (Nat.le_refl _) _;have HBA:=jq hbA;clear hbA;obtain⟨x0,x1⟩:=(FrB.new w ⟨a,[]⟩).cells
 unfold Qj S;go_enter Tryz.func272,Tryz.ntmps272
 go_wp2_with fail
 refine bodyPost_ret (v:=.agg #[.string ⟨a.toArray⟩,.string ⟨#[]⟩]) (by simp[results,Tryz.results272,go_sem,x0,x1]) rfl ?_;exact⟨rfl,HBA.out⟩
def frA(f:Fct):Array Value:=#[.string ⟨#[]⟩,.string ⟨#[]⟩,.string ⟨#[]⟩,.string ⟨#[]⟩,.string ⟨#[]⟩,.string ⟨#[]⟩,.string ⟨#[]⟩,.string ⟨#[]⟩,.string ⟨f.q.toArray⟩,.string ⟨#[]⟩,.string ⟨f.amount.toArray⟩,.string ⟨#[]⟩,.string ⟨f.fee.toArray⟩,.string ⟨#[]⟩,.string ⟨f.price.n.toArray⟩,.string ⟨f.price.d.toArray⟩,.string ⟨f.ratio.n.toArray⟩,.string ⟨f.ratio.d.toArray⟩,.string ⟨f.share.n.toArray⟩,.string ⟨f.share.d.toArray⟩,.string ⟨#[]⟩,.string ⟨#[]⟩,.string ⟨#[]⟩,.string ⟨#[]⟩,.string ⟨#[]⟩,.string ⟨#[]⟩]
theorem Zht(f:Fct)(W:World):(Instr.index 288 (.agg (frA f)) (.int .i64 4)).run Tryz.prog W=.ok (Qj (f.num 4)) W:=by kernel_rfl
theorem Zhu(f:Fct)(W:World):(Instr.index 288 (.agg (frA f)) (.int .i64 5)).run Tryz.prog W=.ok (Qj (f.num 5)) W:=by kernel_rfl
theorem Zhv(f:Fct)(W:World):(Instr.index 288 (.agg (frA f)) (.int .i64 6)).run Tryz.prog W=.ok (Qj (f.num 6)) W:=by kernel_rfl
theorem Zhw(f:Fct)(W:World):(Instr.index 288 (.agg (frA f)) (.int .i64 7)).run Tryz.prog W=.ok (Qj (f.num 7)) W:=by kernel_rfl
theorem Zhx(f:Fct)(W:World):(Instr.index 288 (.agg (frA f)) (.int .i64 8)).run Tryz.prog W=.ok (Qj (f.num 8)) W:=by kernel_rfl
theorem Zhy(f:Fct)(W:World):(Instr.index 288 (.agg (frA f)) (.int .i64 9)).run Tryz.prog W=.ok (Qj (f.num 9)) W:=by kernel_rfl
theorem ZfW(f:Fct)(i:Nat)(h1:4<=i)(h2:i<=9)(W:World):(Instr.index 288 (.agg (frA f)) (.int .i64 (i:Int))).run Tryz.prog W=.ok (Qj (f.num i)) W:=by
 have h:i=4\/i=5\/i=6\/i=7\/i=8\/i=9:=by omega
 rcases h with rfl|rfl|rfl|rfl|rfl|rfl
 ·exact Zht f W
 ·exact Zhu f W
 ·exact Zhv f W
 ·exact Zhw f W
 ·exact Zhx f W
 ·exact Zhy f W
theorem Za4(f:Fct)(v:FaV)(i:Nat)(h1:4<=i)(h2:i<=9)(w:World)(hp:Env w):Calls Tryz.prog 210 #[.agg (Qe f v),.int .i64 (i:Int)] w fun e w'=>e=.returned (Qj (f.num i))/\Below w.1.size w w':=by
 have H0:=(Kp.start hp).new w.1.size rfl (Qe f v) 44;have H:=jq (H0.new (w.1.size+1) (by simp) #[.string ⟨#[]⟩,.string ⟨#[]⟩] 28);have HWQ:=jq (fun W=>YW f.q W);have HWA:=jq (fun W=>YW f.amount W);have HWF:=jq (fun W=>YW f.fee W);have HIX:=jq (fun W=>ZfW f i h1 h2 W);unfold frA at HIX;clear h1 h2 hp H0;generalize f.num i=res at*;generalize (i:Int)=z at*;unfold Qj S at*
 go_enter Tryz.func210,Tryz.ntmps210
 go_upto_region 1 with (fail)
 generalize hW:(w.alloc (.cells (Qe f v) 44)).alloc (.cells #[.string ⟨#[]⟩,.string ⟨#[]⟩] 28)=W at*;clear hW
 have hS:=jq (fun V (h:Bz W V)=>(show V.cell? ⟨w.1.size,9,none⟩=some (.string ⟨f.q.toArray⟩)/\V.cell? ⟨w.1.size,10,none⟩=some (.string ⟨f.amount.toArray⟩)/\V.cell? ⟨w.1.size,11,none⟩=some (.string ⟨f.fee.toArray⟩)/\V.cell? ⟨w.1.size,12,none⟩=some (.string ⟨f.price.n.toArray⟩)/\V.cell? ⟨w.1.size,13,none⟩=some (.string ⟨f.price.d.toArray⟩)/\V.cell? ⟨w.1.size,14,none⟩=some (.string ⟨f.ratio.n.toArray⟩)/\V.cell? ⟨w.1.size,15,none⟩=some (.string ⟨f.ratio.d.toArray⟩)/\V.cell? ⟨w.1.size,16,none⟩=some (.string ⟨f.share.n.toArray⟩)/\V.cell? ⟨w.1.size,17,none⟩=some (.string ⟨f.share.d.toArray⟩) from
  have k:=H.out.here h
  ⟨k.c 1 9 rfl rfl,k.c 1 10 rfl rfl,k.c 1 11 rfl rfl,k.c 1 12 rfl rfl,k.c 1 13 rfl rfl,k.c 1 14 rfl rfl,k.c 1 15 rfl rfl,k.c 1 16 rfl rfl,k.c 1 17 rfl rfl⟩))
 have hT:=jq (fun V (h:Bz W V) (c d:Value)=>(show((V.setCell ⟨w.1.size+1,0,none⟩ c).setCell ⟨w.1.size+1,1,none⟩ d).cell? ⟨w.1.size,9,none⟩=some (.string ⟨f.q.toArray⟩)/\((V.setCell ⟨w.1.size+1,0,none⟩ c).setCell ⟨w.1.size+1,1,none⟩ d).cell? ⟨w.1.size,10,none⟩=some (.string ⟨f.amount.toArray⟩)/\((V.setCell ⟨w.1.size+1,0,none⟩ c).setCell ⟨w.1.size+1,1,none⟩ d).cell? ⟨w.1.size,11,none⟩=some (.string ⟨f.fee.toArray⟩)/\((V.setCell ⟨w.1.size+1,0,none⟩ c).setCell ⟨w.1.size+1,1,none⟩ d).cell? ⟨w.1.size,12,none⟩=some (.string ⟨f.price.n.toArray⟩)/\((V.setCell ⟨w.1.size+1,0,none⟩ c).setCell ⟨w.1.size+1,1,none⟩ d).cell? ⟨w.1.size,13,none⟩=some (.string ⟨f.price.d.toArray⟩)/\((V.setCell ⟨w.1.size+1,0,none⟩ c).setCell ⟨w.1.size+1,1,none⟩ d).cell? ⟨w.1.size,14,none⟩=some (.string ⟨f.ratio.n.toArray⟩)/\((V.setCell ⟨w.1.size+1,0,none⟩ c).setCell ⟨w.1.size+1,1,none⟩ d).cell? ⟨w.1.size,15,none⟩=some (.string ⟨f.ratio.d.toArray⟩)/\((V.setCell ⟨w.1.size+1,0,none⟩ c).setCell ⟨w.1.size+1,1,none⟩ d).cell? ⟨w.1.size,16,none⟩=some (.string ⟨f.share.n.toArray⟩)/\((V.setCell ⟨w.1.size+1,0,none⟩ c).setCell ⟨w.1.size+1,1,none⟩ d).cell? ⟨w.1.size,17,none⟩=some (.string ⟨f.share.d.toArray⟩) from
  have k:=Kp.set2 (H.out.here h) c d
  ⟨k.c 1 9 rfl rfl,k.c 1 10 rfl rfl,k.c 1 11 rfl rfl,k.c 1 12 rfl rfl,k.c 1 13 rfl rfl,k.c 1 14 rfl rfl,k.c 1 15 rfl rfl,k.c 1 16 rfl rfl,k.c 1 17 rfl rfl⟩))
 go_region_held3 (fun w'=>w'.cell? ⟨w.1.size,9,none⟩=some (.string ⟨f.q.toArray⟩)/\w'.cell? ⟨w.1.size,10,none⟩=some (.string ⟨f.amount.toArray⟩)/\w'.cell? ⟨w.1.size,11,none⟩=some (.string ⟨f.fee.toArray⟩)/\w'.cell? ⟨w.1.size,12,none⟩=some (.string ⟨f.price.n.toArray⟩)/\w'.cell? ⟨w.1.size,13,none⟩=some (.string ⟨f.price.d.toArray⟩)/\w'.cell? ⟨w.1.size,14,none⟩=some (.string ⟨f.ratio.n.toArray⟩)/\w'.cell? ⟨w.1.size,15,none⟩=some (.string ⟨f.ratio.d.toArray⟩)/\w'.cell? ⟨w.1.size,16,none⟩=some (.string ⟨f.share.n.toArray⟩)/\w'.cell? ⟨w.1.size,17,none⟩=some (.string ⟨f.share.d.toArray⟩))
  (first
    |with_reducible exact hT.out _ (by repeat' (first|assumption|exact Bz.refl _|refine Bz.drew ?_|refine Bz.alloc ?_ _|refine Bz.set ?_ (by first|assumption|exact Nat.le_refl _|exact Bz.size (by assumption)) _ _)) _ _
    |exact hS.out _ (by repeat' (first|assumption|exact Bz.refl _|refine Bz.drew ?_|refine Bz.alloc ?_ _|refine Bz.set ?_ (by first|assumption|exact Nat.le_refl _|exact Bz.size (by assumption)) _ _))
    |go_keep)
  (first
    |(go_at_call_of 272 (Value.string ⟨f.q.toArray⟩);refine(HWQ.out _).mono ?_;rintro e v1 ⟨rfl,hb1⟩;have hz1:Bz W v1:=Bz.call (by repeat' (first|assumption|exact Bz.refl _|refine Bz.drew ?_|refine Bz.alloc ?_ _|refine Bz.set ?_ (by first|assumption|exact Nat.le_refl _|exact Bz.size (by assumption)) _ _)) hb1;have ix1:=HIX.out v1;have u1:=(H.out.here hz1).c 0 0 rfl rfl;have t1:=(H.out.here hz1).c 0 1 rfl rfl;have f1:=(H.out.here hz1).f 0 0 rfl;have g1:=(H.out.here hz1).f 0 1 rfl)
    |(go_at_call_of 272 (Value.string ⟨f.amount.toArray⟩);refine(HWA.out _).mono ?_;rintro e v2 ⟨rfl,hb2⟩;have hz2:Bz W v2:=Bz.call (by repeat' (first|assumption|exact Bz.refl _|refine Bz.drew ?_|refine Bz.alloc ?_ _|refine Bz.set ?_ (by first|assumption|exact Nat.le_refl _|exact Bz.size (by assumption)) _ _)) hb2;have ix2:=HIX.out v2;have u2:=(H.out.here hz2).c 0 0 rfl rfl;have t2:=(H.out.here hz2).c 0 1 rfl rfl;have f2:=(H.out.here hz2).f 0 0 rfl;have g2:=(H.out.here hz2).f 0 1 rfl)
    |(go_at_call_of 272 (Value.string ⟨f.fee.toArray⟩);refine(HWF.out _).mono ?_;rintro e v3 ⟨rfl,hb3⟩;have hz3:Bz W v3:=Bz.call (by repeat' (first|assumption|exact Bz.refl _|refine Bz.drew ?_|refine Bz.alloc ?_ _|refine Bz.set ?_ (by first|assumption|exact Nat.le_refl _|exact Bz.size (by assumption)) _ _)) hb3;have ix3:=HIX.out v3;have u3:=(H.out.here hz3).c 0 0 rfl rfl;have t3:=(H.out.here hz3).c 0 1 rfl rfl;have f3:=(H.out.here hz3).f 0 0 rfl;have g3:=(H.out.here hz3).f 0 1 rfl))
 all_goals
  go_wp2_with fail
  refine bodyPost_ret (v:=.agg #[.string ⟨res.n.toArray⟩,.string ⟨res.d.toArray⟩]) (by simp[results,Tryz.results210,go_sem,u3,t3]) rfl ?_
  first
   |exact⟨rfl,(Kp.set2 (H.out.here hz3) _ _).bl⟩
   |exact⟨rfl,(Kp.set2 (H.out.here hz2) _ _).bl⟩
   |exact⟨rfl,(Kp.set2 (H.out.here hz1) _ _).bl⟩
end
section
attribute [local go_sem ↓] Go.wp_at_zero Go.wp_at_succ Qs
theorem Zgn(f:Fct)(i:Nat)(h1:4<=i)(h2:i<=9):f.none i=((f.num i).n==[]&&(f.num i).d==[]):=by
 have h:i=4\/i=5\/i=6\/i=7\/i=8\/i=9:=by omega
 have e:f.none i=decide (f.num i=⟨[],[]⟩):=by rcases h with rfl|rfl|rfl|rfl|rfl|rfl<;>rfl
 rw[e];generalize f.num i=z;obtain⟨a,b⟩:=z
 cases a<;>cases b<;>simp
theorem ZeO(f:Fct)(v:FaV)(i:Nat)(hi:i<=12)(w:World)(hp:Env w)(hm:FaM w w.1.size f v)(_hn:v.pn<=100000)(_ho:v.on<=100000):Calls Tryz.prog 150 #[.agg (Qe f v),.int .i64 (i:Int)] w fun e w'=>e=.returned (.bool (f.none i))/\Below w.1.size w w':=by
 have H:=jq ((Kp.start hp).new w.1.size rfl (Qe f v) 44);have hl:=Xp (H.out.at_ 0 rfl) (QV f v)
 by_cases hv:4<=i/\i<=9
 ·have HV:=jq (Za4 f v i hv.1 hv.2 (w.alloc (.cells (Qe f v) 44)) H.out.pw);rw[Zgn f i hv.1 hv.2];have n0:((i:Int)==0)=false:=beq_false_of_ne (by omega);have n1:((i:Int)==1)=false:=beq_false_of_ne (by omega);have n2:((i:Int)==2)=false:=beq_false_of_ne (by omega);have n3:((i:Int)==3)=false:=beq_false_of_ne (by omega);have n10:((i:Int)==10)=false:=beq_false_of_ne (by omega);have n11:((i:Int)==11)=false:=beq_false_of_ne (by omega);have n12:((i:Int)==12)=false:=beq_false_of_ne (by omega);generalize f.num i=z at*;generalize (i:Int)=ii at*;generalize Qe f v=fb at*;clear hi hp hm _hn _ho hv;unfold Qj S at HV
  cases e1:(z.n==[])<;>cases e2:(z.d==[])
  all_goals
   go_enter Tryz.func150,Tryz.ntmps150
   go_wp2_with fail
   refine HV.out.mono ?_;rintro e w1 ⟨rfl,hb1⟩;go_wp2_with fail
   first|go_ret|skip
   exact⟨rfl,(H.out.here hb1).bl⟩
 ·have x5:(w.alloc (.cells (Qe f v) 44)).cell? ⟨w.1.size,5,none⟩=some (.string ⟨f.inst.toArray⟩):=H.out.c 0 5 rfl rfl;have x6:(w.alloc (.cells (Qe f v) 44)).cell? ⟨w.1.size,6,none⟩=some (.string ⟨f.other.toArray⟩):=H.out.c 0 6 rfl rfl;have x7:(w.alloc (.cells (Qe f v) 44)).cell? ⟨w.1.size,7,none⟩=some (.string ⟨f.cur.toArray⟩):=H.out.c 0 7 rfl rfl;have x8:(w.alloc (.cells (Qe f v) 44)).cell? ⟨w.1.size,8,none⟩=some (.string ⟨f.target.toArray⟩):=H.out.c 0 8 rfl rfl;have x18:(w.alloc (.cells (Qe f v) 44)).cell? ⟨w.1.size,18,none⟩=some (.slice v.pA v.pn v.pc):=H.out.c 0 18 rfl rfl;have x19:(w.alloc (.cells (Qe f v) 44)).cell? ⟨w.1.size,19,none⟩=some (.slice v.oA v.on v.oc):=H.out.c 0 19 rfl rfl;have x20:(w.alloc (.cells (Qe f v) 44)).cell? ⟨w.1.size,20,none⟩=some (.int .i64 f.choice):=H.out.c 0 20 rfl rfl;have E0:=jq (show f.none 0=f.inst.isEmpty by show(f.inst==[])=_;cases f.inst<;>rfl);have E1:=jq (show f.none 1=f.other.isEmpty by show(f.other==[])=_;cases f.other<;>rfl);have E2:=jq (show f.none 2=f.cur.isEmpty by show(f.cur==[])=_;cases f.cur<;>rfl);have E3:=jq (show f.none 3=f.target.isEmpty by show(f.target==[])=_;cases f.target<;>rfl)
  have E10:=jq (show f.none 10=((v.pn:Int)==0) by
   show f.picks.isEmpty=_
   rw[hm.pk.1]
   cases f.picks<;>simp
   omega)
  have E11:=jq (show f.none 11=((v.on:Int)==0) by
   show f.options.isEmpty=_
   rw[hm.op.1]
   cases f.options<;>simp
   omega)
  have E12:=jq (show f.none 12=(f.choice==0) from rfl);generalize hfb:Qe f v=fb at*;have hcase:i=0\/i=1\/i=2\/i=3\/i=10\/i=11\/i=12:=by omega
  generalize f.none=fn at*;clear hi hp hm hv hfb
  rcases hcase with rfl|rfl|rfl|rfl|rfl|rfl|rfl
  all_goals
   go_enter Tryz.func150,Tryz.ntmps150
   go_wp2_with fail
   first|go_ret|skip
   first
    |exact⟨Qm E0.out.symm,H.out.bl⟩
    |exact⟨Qm E1.out.symm,H.out.bl⟩
    |exact⟨Qm E2.out.symm,H.out.bl⟩
    |exact⟨Qm E3.out.symm,H.out.bl⟩
    |exact⟨Qm E10.out.symm,H.out.bl⟩
    |exact⟨Qm E11.out.symm,H.out.bl⟩
    |exact⟨Qm E12.out.symm,H.out.bl⟩
end
end Go.Proofs.YtokjnjdbnabchaaGreatDoor
