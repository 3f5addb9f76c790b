/- Fa7, Fa8. -/
import Derived.Test.YtokjnjdbnabchaaGreatDoorQGEp18
import Derived.Test.YtokjnjdbnabchaaGreatDoorQGEp22
set_option maxRecDepth 100000
set_option maxHeartbeats 8000000
namespace Go.Proofs.YtokjnjdbnabchaaGreatDoor
open Go.Lib renaming hid→jq
open Go.RowKit Go.Shelf
section
attribute [local go_sem] Oper.semAt_some
attribute [local go_sem ↓] Go.wp_at_zero Go.wp_at_succ Qs Yy
def nmC(s:List UInt8):Int:=if Qv s=false then 23 else 0
theorem Vq(s:List UInt8):Vd 206 #[S s] (.int .i64 (nmC s)):=by
 intro w hp;have H:=jq (Kp.start hp);have HN:=jq (VB s);have HC:=jq (show nmC s=if Qv s=false then 23 else 0 from rfl);generalize nmC s=res at*;generalize Qv s=nb at*;unfold S at*
 clear hp
 cases nb
 all_goals
  go_enter Tryz.func206,Tryz.ntmps206
  go_wp2_with fail
  refine(HN.out _ H.out.pw).mono ?_;rintro e w1 ⟨rfl,hb⟩;go_wp2_with fail
  first|go_ret|skip
  exact⟨Qa (by rw[HC.out];rfl),(H.out.here hb).bl⟩
theorem Zgc{W:World}{m:Int->Option Value}{nums:List (Nat×Bool×Bool)}{i:Nat}{y:Nat×Bool×Bool}(h:LimI W m nums)(hf:nums.find? (fun x=>x.1==i)=some y):∃cl,m (i:Int)=some cl/\LimV W cl y.2.1 y.2.2:=by
 have h1:=h (i:Int)
 have e:(fun x:Nat×Bool×Bool=>(x.1:Int)==(i:Int))=(fun x=>x.1==i):=by
  funext x
  rw[Bool.eq_iff_iff,beq_iff_eq,beq_iff_eq];omega
 rw[e,hf] at h1;exact h1
theorem Zgd(f:Fct)(r:KRow)(i:Nat)(h1:4<=i)(h2:i<=9){y:Nat×Bool×Bool}(hf:r.nums.find? (fun x=>x.1==i)=some y):XW f r i=QT y.2.1 y.2.2 (f.num i):=by
 have h:i=4\/i=5\/i=6\/i=7\/i=8\/i=9:=by omega
 obtain⟨a,b,c⟩:=y
 rcases h with rfl|rfl|rfl|rfl|rfl|rfl<;>simp[XW,hf]
theorem Ziq{f:Fct}(h:f.Sz 1000)(i:Nat):(f.num i).Sz 1000:=by
 unfold Fct.num
 split
 ·exact⟨h.q,by simp⟩
 ·exact⟨h.amount,by simp⟩
 ·exact⟨h.fee,by simp⟩
 ·exact h.price
 ·exact h.ratio
 ·exact h.share
 ·exact⟨by simp,by simp⟩
theorem ZeN(f:Fct)(v:FaV)(r:KRow)(word:List UInt8)(mv:Value)(i:Nat)(h1:4<=i)(h2:i<=9)(y:Nat×Bool×Bool)(hy:r.nums.find? (fun x=>x.1==i)=some y)(w:World)(hp:Env w)(hf:f.Sz 1000)(hl:LimM w mv r.nums):
 Calls Tryz.prog 149 #[.agg (Qe f v),.agg (kB word r.cls r.has mv r.code),.int .i64 (i:Int)] w fun e w'=>e=.returned (.int .i64 (XW f r i))/\Below w.1.size w w':=by
 rw[Zgd f r i h1 h2 hy]
 rcases hl with ⟨rfl,e⟩|⟨b,n,rfl,m,him,hI⟩
 ·rw[e] at hy;cases hy
 obtain⟨cl,hm,hcl⟩:=Zgc hI hy
 obtain⟨b1,b2,rfl,hb1,hb2⟩:=hcl
 have H1:=(Kp.start hp).new w.1.size rfl (Qe f v) 44;have H:=jq (H1.new (w.1.size+1) (by simp) (kB word r.cls r.has (.map (some b)) r.code) 182);have HV:=jq (fun W hp=>Za4 f v i h1 h2 W hp);have HLM:=jq (fun W (hb:Below w.1.size w W)=>VT y.2.1 y.2.2 (f.num i) b1 b2 W (hp.here hb) (Ziq hf i) (hb1.here hb) (hb2.here hb))
 have HLK:=jq (show ∀W,Below w.1.size w W->(Instr.lookup 180 (.map (some b)) (.int .i64 (i:Int)) false).run Tryz.prog W=.ok (.func (.func 267) #[] #[.pointer (some ⟨b1,0,none⟩),.pointer (some ⟨b2,0,none⟩)]) W from fun W hb=>by
  have:=(him.here hb).look (t:=180) (e:=230) (k:=(i:Int)) Tryz.underlying180 (z:=.nilFunc) (by kernel_rfl) (by omega) (by omega)
  rw[this,hm];rfl)
 have n0:((i:Int)==0)=false:=beq_false_of_ne (by omega);have n1:((i:Int)==1)=false:=beq_false_of_ne (by omega);have n2:((i:Int)==2)=false:=beq_false_of_ne (by omega);have n3:((i:Int)==3)=false:=beq_false_of_ne (by omega);have n10:((i:Int)==10)=false:=beq_false_of_ne (by omega);have n11:((i:Int)==11)=false:=beq_false_of_ne (by omega);have n12:((i:Int)==12)=false:=beq_false_of_ne (by omega);generalize QT y.2.1 y.2.2 (f.num i)=res at*;generalize f.num i=z at*;generalize (i:Int)=ii at*;have F21:=QV f v;have K15:(kB word r.cls r.has (.map (some b)) r.code)[15]?=some (.map (some b)):=rfl;have HF21:=jq F21;have HK15:=jq K15;generalize Qe f v=fb at*;generalize kB word r.cls r.has (.map (some b)) r.code=kb at*;clear hp hf hm him hI hb1 hb2 H1 h1 h2 hy F21 K15;unfold Qj S at*
 go_enter Tryz.func149,Tryz.ntmps149
 go_upto_region 3 with (fail)
 generalize (w.alloc (.cells fb 44)).alloc (.cells kb 182)=W0 at*
 have hS:=jq (fun V (h:Bz W0 V)=>(show V.cell? ⟨w.1.size+1,15,none⟩=some (.map (some b))/\(ldF (.pointer (some ⟨w.1.size,0,none⟩))).run Tryz.prog V=.ok (.agg fb) V/\(Instr.lookup 180 (.map (some b)) (.int .i64 ii) false).run Tryz.prog V=.ok (.func (.func 267) #[] #[.pointer (some ⟨b1,0,none⟩),.pointer (some ⟨b2,0,none⟩)]) V from
  ⟨(H.out.here h).c 0 15 rfl HK15.out,Xp ((H.out.here h).at_ 1 rfl) HF21.out,HLK.out V (H.out.here h).bl⟩))
 have hE:=jq (fun V (h:Bz W0 V)=>(H.out.here h).pw);have hB:=jq (fun V (h:Bz W0 V)=>(H.out.here h).bl)
 go_region_held3 (fun V=>V.cell? ⟨w.1.size+1,15,none⟩=some (.map (some b))/\(ldF (.pointer (some ⟨w.1.size,0,none⟩))).run Tryz.prog V=.ok (.agg fb) V/\(Instr.lookup 180 (.map (some b)) (.int .i64 ii) false).run Tryz.prog V=.ok (.func (.func 267) #[] #[.pointer (some ⟨b1,0,none⟩),.pointer (some ⟨b2,0,none⟩)]) V)
  (first
    |exact hS.out _ (by repeat' (first|assumption|exact Bz.refl _|refine Bz.drew ?_|refine Bz.alloc ?_ _|refine Bz.set ?_ (by first|assumption|exact Nat.le_refl _|exact Bz.size (by assumption)) _ _))
    |go_keep)
  (first
    |(go_at_call 210;refine(HV.out _ (hE.out _ (by repeat' (first|assumption|exact Bz.refl _|refine Bz.drew ?_|refine Bz.alloc ?_ _|refine Bz.set ?_ (by first|assumption|exact Nat.le_refl _|exact Bz.size (by assumption)) _ _)))).mono ?_;rintro e v1 ⟨rfl,hb1⟩;have hz1:Bz W0 v1:=Bz.call (by repeat' (first|assumption|exact Bz.refl _|refine Bz.drew ?_|refine Bz.alloc ?_ _|refine Bz.set ?_ (by first|assumption|exact Nat.le_refl _|exact Bz.size (by assumption)) _ _)) hb1)
    |(go_at_call 267;refine(HLM.out _ (hB.out _ (by repeat' (first|assumption|exact Bz.refl _|refine Bz.drew ?_|refine Bz.alloc ?_ _|refine Bz.set ?_ (by first|assumption|exact Nat.le_refl _|exact Bz.size (by assumption)) _ _)))).mono ?_;rintro e v3 ⟨rfl,hb3⟩;have hz3:Bz W0 v3:=Bz.call (by repeat' (first|assumption|exact Bz.refl _|refine Bz.drew ?_|refine Bz.alloc ?_ _|refine Bz.set ?_ (by first|assumption|exact Nat.le_refl _|exact Bz.size (by assumption)) _ _)) hb3))
 all_goals
  go_wp2_with fail
  first|go_ret|skip
  exact⟨rfl,(H.out.here hz3).bl⟩
end
section
attribute [local go_sem] Oper.semAt_some
attribute [local go_sem ↓] Go.wp_at_zero Go.wp_at_succ Qs Yy
theorem Zge(s:List UInt8):nmC s=0\/nmC s=23:=by unfold nmC;split<;>simp
theorem ZcF(f:Fct)(v:FaV)(r:KRow)(word:List UInt8)(mv:Value)(i:Nat)(h1:i<=12)(h2:i<4\/9<i)(w:World)(hp:Env w)(hf:f.Sz 1000)(hm:FaM w w.1.size f v)(hpn:v.pn<=100000)(hon:v.on<=100000):
 Calls Tryz.prog 149 #[.agg (Qe f v),.agg (kB word r.cls r.has mv r.code),.int .i64 (i:Int)] w fun e w'=>e=.returned (.int .i64 (XW f r i))/\Below w.1.size w w':=by
 have H1:=(Kp.start hp).new w.1.size rfl (Qe f v) 44;have H:=jq (H1.new (w.1.size+1) (by simp) (kB word r.cls r.has mv r.code) 182);have hbl:=H.out.bl;have HNI:=jq (Vq f.inst);have HNT:=jq (Vq f.target);have HNO:=jq (Vq f.other);have HCO:=jq (Zaf f.other (by have:=hf.other;omega));have HCC:=jq (Zaf f.cur (by have:=hf.cur;omega));have HPK:=jq (Zah f v _ H.out.pw hf (hm.here hbl) hpn);have HOP:=jq (VX f v _ H.out.pw hf (hm.here hbl) hon);have hl:=Xp (H.out.at_ 1 rfl) (QV f v);have E0:=jq (show XW f r 0=nmC f.inst from rfl);have E3:=jq (show XW f r 3=nmC f.target from rfl)
 have E1:=jq (show XW f r 1=if r.code=true then(if Qp f.other=false then 12 else if f.other=f.cur then 18 else 0) else if nmC f.other≠0 then nmC f.other else if f.other=f.inst then 18 else 0 by
  show(if r.code=true then _ else if Qv f.other=false then 23 else _)=_
  unfold nmC
  by_cases h:Qv f.other=false<;>simp[h])
 have E2:=jq (show XW f r 2=if Qp f.cur=false then 12 else 0 from rfl);have E10:=jq (show XW f r 10=VN f from rfl);have E11:=jq (show XW f r 11=ZaO f from rfl);have E12:=jq (show XW f r 12=if f.choice<0 then 2 else 0 from rfl);have HV:=jq (Zge f.other);have C5:=jq (show(Qe f v)[5]?=some (.string ⟨f.inst.toArray⟩) from rfl);have C6:=jq (show(Qe f v)[6]?=some (.string ⟨f.other.toArray⟩) from rfl);have C7:=jq (show(Qe f v)[7]?=some (.string ⟨f.cur.toArray⟩) from rfl);have C8:=jq (show(Qe f v)[8]?=some (.string ⟨f.target.toArray⟩) from rfl);have C20:=jq (show(Qe f v)[20]?=some (.int .i64 f.choice) from rfl);have K16:=jq (show(kB word r.cls r.has mv r.code)[16]?=some (.bool r.code) from rfl);generalize XW f r=fl at*;generalize VN f=pk at*;generalize ZaO f=op at*;generalize nmC f.inst=n0 at*;generalize nmC f.target=n3 at*;generalize nmC f.other=n1 at*;generalize Qp f.other=co at*;generalize Qp f.cur=cc at*;generalize Qe f v=fb at*;generalize r.code=cd at*;generalize kB word r.cls r.has mv cd=kb at*;have hcase:i=0\/i=1\/i=2\/i=3\/i=10\/i=11\/i=12:=by omega
 clear hp hf hm hpn hon H1 h1 h2 hbl;unfold S at*
 rcases hcase with rfl|rfl|rfl|rfl|rfl|rfl|rfl
 ·have x5:=H.out.c 1 5 rfl C5.out;go_enter Tryz.func149,Tryz.ntmps149
  go_wp2_with fail
  refine(HNI.out _ H.out.pw).mono ?_;rintro e w1 ⟨rfl,hb1⟩;go_wp2_with fail
  first|go_ret|skip
  exact⟨Qa E0.out.symm,(H.out.here hb1).bl⟩
 ·have x5:=H.out.c 1 5 rfl C5.out;have x6:=H.out.c 1 6 rfl C6.out;have x7:=H.out.c 1 7 rfl C7.out;have k16:=H.out.c 0 16 rfl K16.out
  cases cd with
  |true=>
   rw[if_pos rfl] at E1;go_enter Tryz.func149,Tryz.ntmps149
   go_wp2_with fail
   refine(HCO.out _ H.out.pw).mono ?_;rintro e w1 ⟨rfl,hb1⟩;have HA:=jq (H.out.here hb1);clear x5 x6 x7 k16;have x6:=HA.out.c 1 6 rfl C6.out
   cases co with
   |false=>
    rw[if_pos rfl] at E1;go_wp2_with fail
    first|go_ret|skip
    exact⟨Qa E1.out.symm,HA.out.bl⟩
   |true=>
    rw[if_neg (by decide)] at E1
    cases hq:(f.other==f.cur) with
    |true=>
     rw[if_pos (by simpa using hq)] at E1;go_wp2_with fail
     first|go_ret|skip
     exact⟨Qa E1.out.symm,HA.out.bl⟩
    |false=>
     rw[if_neg (by simpa using hq)] at E1;go_wp2_with fail
     first|go_ret|skip
     exact⟨Qa E1.out.symm,HA.out.bl⟩
  |false=>
   rw[if_neg (by decide)] at E1;go_enter Tryz.func149,Tryz.ntmps149
   go_wp2_with fail
   refine(HNO.out _ H.out.pw).mono ?_;rintro e w1 ⟨rfl,hb1⟩;have HA:=jq (H.out.here hb1);clear x5 x6 x7 k16;have x6:=HA.out.c 1 6 rfl C6.out
   rcases HV.out with rfl|rfl
   ·rw[if_neg (by decide)] at E1
    cases hq:(f.other==f.inst) with
    |true=>
     rw[if_pos (by simpa using hq)] at E1;go_wp2_with fail
     first|go_ret|skip
     exact⟨Qa E1.out.symm,HA.out.bl⟩
    |false=>
     rw[if_neg (by simpa using hq)] at E1;go_wp2_with fail
     first|go_ret|skip
     exact⟨Qa E1.out.symm,HA.out.bl⟩
   ·rw[if_pos (by decide)] at E1;go_wp2_with fail
    first|go_ret|skip
    exact⟨Qa E1.out.symm,HA.out.bl⟩
 ·have x7:=H.out.c 1 7 rfl C7.out
  cases cc
  all_goals
   go_enter Tryz.func149,Tryz.ntmps149
   go_wp2_with fail
   refine(HCC.out _ H.out.pw).mono ?_;rintro e w1 ⟨rfl,hb1⟩;go_wp2_with fail
   first|go_ret|skip
   exact⟨Qa (by rw[E2.out];rfl),(H.out.here hb1).bl⟩
 ·have x8:=H.out.c 1 8 rfl C8.out;go_enter Tryz.func149,Tryz.ntmps149
  go_wp2_with fail
  refine(HNT.out _ H.out.pw).mono ?_;rintro e w1 ⟨rfl,hb1⟩;go_wp2_with fail
  first|go_ret|skip
  exact⟨Qa E3.out.symm,(H.out.here hb1).bl⟩
 ·go_enter Tryz.func149,Tryz.ntmps149
  go_wp2_with fail
  refine HPK.out.mono ?_;rintro e w1 ⟨rfl,hb1⟩;go_wp2_with fail
  first|go_ret|skip
  exact⟨Qa E10.out.symm,(H.out.here hb1).bl⟩
 ·go_enter Tryz.func149,Tryz.ntmps149
  go_wp2_with fail
  refine HOP.out.mono ?_;rintro e w1 ⟨rfl,hb1⟩;go_wp2_with fail
  first|go_ret|skip
  exact⟨Qa E11.out.symm,(H.out.here hb1).bl⟩
 ·have x20:=H.out.c 1 20 rfl C20.out
  by_cases hc:f.choice<0
  ·rw[if_pos hc] at E12;go_enter Tryz.func149,Tryz.ntmps149
   go_wp2_with fail
   first|go_ret|skip
   exact⟨Qa E12.out.symm,H.out.bl⟩
  ·rw[if_neg hc] at E12;go_enter Tryz.func149,Tryz.ntmps149
   go_wp2_with fail
   first|go_ret|skip
   exact⟨Qa E12.out.symm,H.out.bl⟩
end
end Go.Proofs.YtokjnjdbnabchaaGreatDoor
