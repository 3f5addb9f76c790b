/- Fa7, Fa8, Fa9, Fb0. -/
import Derived.Test.YtbcnkcldlealjaaGreatDoorQGVa15
import Derived.Test.YtbcnkcldlealjaaGreatDoorQGVa19
set_option maxRecDepth 100000
set_option maxHeartbeats 8000000
namespace Go.Proofs.YtbcnkcldlealjaaGreatDoor
open Go.Lib renaming hid→jq
open Go.RowKit Go.Shelf
section
attribute [local go_sem] Oper.semAt_some
attribute [local go_sem ↓] Go.wp_at_zero Go.wp_at_succ Qr YM
def nmC(s:List UInt8):Int:=if Qw s=false then 23 else 0
theorem VD(s:List UInt8):Za0 95 #[S s] (.int .i64 (nmC s)):=by
 intro w hp;have H:=jq (Kp.start hp);have HN:=jq (VK s);have HC:=jq (show nmC s=if Qw s=false then 23 else 0 from rfl);generalize nmC s=res at*;generalize Qw s=nb at*;unfold S at*
 clear hp
 cases nb
 all_goals
  go_enter Tryz.func95,Tryz.ntmps95
  go_wp2_with fail
  refine(HN.out _ H.out.pw).mono ?_;rintro e w1 ⟨rfl,hb⟩;go_wp2_with fail
  first|go_ret|skip
  exact⟨Qa (by rw[HC.out];rfl),(H.out.here hb).bl⟩
theorem Zgk{W:World}{m:Int->Option Value}{nums:List (Nat×Bool×Bool)}{i:Nat}{y:Nat×Bool×Bool}(h:LimI W m nums)(hf:nums.find? (fun x=>x.1==i)=some y):∃cl,m (i:Int)=some cl/\LimV W cl y.2.1 y.2.2:=by
 have h1:=h (i:Int)
 have e:(fun x:Nat×Bool×Bool=>(x.1:Int)==(i:Int))=(fun x=>x.1==i):=by
  funext x
  rw[Bool.eq_iff_iff,beq_iff_eq,beq_iff_eq];omega
 rw[e,hf] at h1;exact h1
theorem Zgl(f:Fct)(r:KRow)(i:Nat)(h1:4<=i)(h2:i<=9){y:Nat×Bool×Bool}(hf:r.nums.find? (fun x=>x.1==i)=some y):Yn f r i=Xr y.2.1 y.2.2 (f.num i):=by
 have h:i=4\/i=5\/i=6\/i=7\/i=8\/i=9:=by omega
 obtain⟨a,b,c⟩:=y
 rcases h with rfl|rfl|rfl|rfl|rfl|rfl<;>simp[Yn,hf]
theorem ZiB{f:Fct}(h:f.Sz 1000)(i:Nat):(f.num i).Sz 1000:=by
 unfold Fct.num
 split
 ·exact⟨h.q,by simp⟩
 ·exact⟨h.amount,by simp⟩
 ·exact⟨h.fee,by simp⟩
 ·exact h.price
 ·exact h.ratio
 ·exact h.share
 ·exact⟨by simp,by simp⟩
theorem ZeP(f:Fct)(v:FaV)(r:KRow)(word:List UInt8)(mv:Value)(i:Nat)(h1:4<=i)(h2:i<=9)(y:Nat×Bool×Bool)(hy:r.nums.find? (fun x=>x.1==i)=some y)(w:World)(hp:Env w)(hf:f.Sz 1000)(hl:LimM w mv r.nums):
 Calls Tryz.prog 61 #[.agg (Qb f v),.agg (kB word r.cls r.has mv r.code),.int .i64 (i:Int)] w fun e w'=>e=.returned (.int .i64 (Yn f r i))/\Below w.1.size w w':=by
 rw[Zgl f r i h1 h2 hy]
 rcases hl with ⟨rfl,e⟩|⟨b,n,rfl,m,him,hI⟩
 ·rw[e] at hy;cases hy
 obtain⟨cl,hm,hcl⟩:=Zgk hI hy
 obtain⟨b1,b2,rfl,hb1,hb2⟩:=hcl
 have H1:=(Kp.start hp).new w.1.size rfl (Qb f v) 44;have H:=jq (H1.new (w.1.size+1) (by simp) (kB word r.cls r.has (.map (some b)) r.code) 87);have HV:=jq (fun W hp=>Zbg f v i h1 h2 W hp);have HLM:=jq (fun W (hb:Below w.1.size w W)=>Jg y.2.1 y.2.2 (f.num i) b1 b2 W (hp.here hb) (ZiB hf i) (hb1.here hb) (hb2.here hb))
 have HLK:=jq (show ∀W,Below w.1.size w W->(Instr.lookup 85 (.map (some b)) (.int .i64 (i:Int)) false).run Tryz.prog W=.ok (.func (.func 130) #[] #[.pointer (some ⟨b1,0,none⟩),.pointer (some ⟨b2,0,none⟩)]) W from fun W hb=>by
  have:=(him.here hb).look (t:=85) (e:=123) (k:=(i:Int)) Tryz.underlying85 (z:=.nilFunc) (by kernel_rfl) (by omega) (by omega)
  rw[this,hm];rfl)
 have n0:((i:Int)==0)=false:=beq_false_of_ne (by omega);have n1:((i:Int)==1)=false:=beq_false_of_ne (by omega);have n2:((i:Int)==2)=false:=beq_false_of_ne (by omega);have n3:((i:Int)==3)=false:=beq_false_of_ne (by omega);have n10:((i:Int)==10)=false:=beq_false_of_ne (by omega);have n11:((i:Int)==11)=false:=beq_false_of_ne (by omega);have n12:((i:Int)==12)=false:=beq_false_of_ne (by omega);generalize Xr y.2.1 y.2.2 (f.num i)=res at*;generalize f.num i=z at*;generalize (i:Int)=ii at*;have F21:=Qe f v;have K15:(kB word r.cls r.has (.map (some b)) r.code)[15]?=some (.map (some b)):=rfl;have HF21:=jq F21;have HK15:=jq K15;generalize Qb f v=fb at*;generalize kB word r.cls r.has (.map (some b)) r.code=kb at*;clear hp hf hm him hI hb1 hb2 H1 h1 h2 hy F21 K15;unfold Xz S at*
 go_enter Tryz.func61,Tryz.ntmps61
 go_upto_region 3 with (fail)
 generalize (w.alloc (.cells fb 44)).alloc (.cells kb 87)=W0 at*
 have hS:=jq (fun V (h:Bz W0 V)=>(show V.cell? ⟨w.1.size+1,15,none⟩=some (.map (some b))/\(ldF (.pointer (some ⟨w.1.size,0,none⟩))).run Tryz.prog V=.ok (.agg fb) V/\(Instr.lookup 85 (.map (some b)) (.int .i64 ii) false).run Tryz.prog V=.ok (.func (.func 130) #[] #[.pointer (some ⟨b1,0,none⟩),.pointer (some ⟨b2,0,none⟩)]) V from
  ⟨(H.out.here h).c 0 15 rfl HK15.out,Qm ((H.out.here h).at_ 1 rfl) HF21.out,HLK.out V (H.out.here h).bl⟩))
 have hE:=jq (fun V (h:Bz W0 V)=>(H.out.here h).pw);have hB:=jq (fun V (h:Bz W0 V)=>(H.out.here h).bl)
 go_region_held3 (fun V=>V.cell? ⟨w.1.size+1,15,none⟩=some (.map (some b))/\(ldF (.pointer (some ⟨w.1.size,0,none⟩))).run Tryz.prog V=.ok (.agg fb) V/\(Instr.lookup 85 (.map (some b)) (.int .i64 ii) false).run Tryz.prog V=.ok (.func (.func 130) #[] #[.pointer (some ⟨b1,0,none⟩),.pointer (some ⟨b2,0,none⟩)]) V)
  (first
    |exact hS.out _ (by repeat' (first|assumption|exact Bz.refl _|refine Bz.drew ?_|refine Bz.alloc ?_ _|refine Bz.set ?_ (by first|assumption|exact Nat.le_refl _|exact Bz.size (by assumption)) _ _))
    |go_keep)
  (first
    |(go_at_call 99;refine(HV.out _ (hE.out _ (by repeat' (first|assumption|exact Bz.refl _|refine Bz.drew ?_|refine Bz.alloc ?_ _|refine Bz.set ?_ (by first|assumption|exact Nat.le_refl _|exact Bz.size (by assumption)) _ _)))).mono ?_;rintro e v1 ⟨rfl,hb1⟩;have hz1:Bz W0 v1:=Bz.call (by repeat' (first|assumption|exact Bz.refl _|refine Bz.drew ?_|refine Bz.alloc ?_ _|refine Bz.set ?_ (by first|assumption|exact Nat.le_refl _|exact Bz.size (by assumption)) _ _)) hb1)
    |(go_at_call 130;refine(HLM.out _ (hB.out _ (by repeat' (first|assumption|exact Bz.refl _|refine Bz.drew ?_|refine Bz.alloc ?_ _|refine Bz.set ?_ (by first|assumption|exact Nat.le_refl _|exact Bz.size (by assumption)) _ _)))).mono ?_;rintro e v3 ⟨rfl,hb3⟩;have hz3:Bz W0 v3:=Bz.call (by repeat' (first|assumption|exact Bz.refl _|refine Bz.drew ?_|refine Bz.alloc ?_ _|refine Bz.set ?_ (by first|assumption|exact Nat.le_refl _|exact Bz.size (by assumption)) _ _)) hb3))
 all_goals
  go_wp2_with fail
  first|go_ret|skip
  exact⟨rfl,(H.out.here hz3).bl⟩
end
section
attribute [local go_sem] Oper.semAt_some
attribute [local go_sem ↓] Go.wp_at_zero Go.wp_at_succ Qr YM
theorem Zgm(s:List UInt8):nmC s=0\/nmC s=23:=by unfold nmC;split<;>simp
theorem ZcB(f:Fct)(v:FaV)(r:KRow)(word:List UInt8)(mv:Value)(i:Nat)(h1:i<=12)(h2:i<4\/9<i)(w:World)(hp:Env w)(hf:f.Sz 1000)(hm:FaM w w.1.size f v)(hpn:v.pn<=100000)(hon:v.on<=100000):
 Calls Tryz.prog 61 #[.agg (Qb f v),.agg (kB word r.cls r.has mv r.code),.int .i64 (i:Int)] w fun e w'=>e=.returned (.int .i64 (Yn f r i))/\Below w.1.size w w':=by
 have H1:=(Kp.start hp).new w.1.size rfl (Qb f v) 44;have H:=jq (H1.new (w.1.size+1) (by simp) (kB word r.cls r.has mv r.code) 87);have hbl:=H.out.bl;have HNI:=jq (VD f.inst);have HNT:=jq (VD f.target);have HNO:=jq (VD f.other);have HCO:=jq (Zaq f.other (by have:=hf.other;omega));have HCC:=jq (Zaq f.cur (by have:=hf.cur;omega));have HPK:=jq (Zas f v _ H.out.pw hf (hm.here hbl) hpn);have HOP:=jq (Jj f v _ H.out.pw hf (hm.here hbl) hon);have hl:=Qm (H.out.at_ 1 rfl) (Qe f v);have E0:=jq (show Yn f r 0=nmC f.inst from rfl);have E3:=jq (show Yn f r 3=nmC f.target from rfl)
 have E1:=jq (show Yn f r 1=if r.code=true then(if VH f.other=false then 12 else if f.other=f.cur then 18 else 0) else if nmC f.other≠0 then nmC f.other else if f.other=f.inst then 18 else 0 by
  show(if r.code=true then _ else if Qw f.other=false then 23 else _)=_
  unfold nmC
  by_cases h:Qw f.other=false<;>simp[h])
 have E2:=jq (show Yn f r 2=if VH f.cur=false then 12 else 0 from rfl);have E10:=jq (show Yn f r 10=Jb f from rfl);have E11:=jq (show Yn f r 11=Za4 f from rfl);have E12:=jq (show Yn f r 12=if f.choice<0 then 2 else 0 from rfl);have HV:=jq (Zgm f.other);have C5:=jq (show(Qb f v)[5]?=some (.string ⟨f.inst.toArray⟩) from rfl);have C6:=jq (show(Qb f v)[6]?=some (.string ⟨f.other.toArray⟩) from rfl);have C7:=jq (show(Qb f v)[7]?=some (.string ⟨f.cur.toArray⟩) from rfl);have C8:=jq (show(Qb f v)[8]?=some (.string ⟨f.target.toArray⟩) from rfl);have C20:=jq (show(Qb f v)[20]?=some (.int .i64 f.choice) from rfl);have K16:=jq (show(kB word r.cls r.has mv r.code)[16]?=some (.bool r.code) from rfl);generalize Yn f r=fl at*;generalize Jb f=pk at*;generalize Za4 f=op at*;generalize nmC f.inst=n0 at*;generalize nmC f.target=n3 at*;generalize nmC f.other=n1 at*;generalize VH f.other=co at*;generalize VH f.cur=cc at*;generalize Qb f v=fb at*;generalize r.code=cd at*;generalize kB word r.cls r.has mv cd=kb at*;have hcase:i=0\/i=1\/i=2\/i=3\/i=10\/i=11\/i=12:=by omega
 clear hp hf hm hpn hon H1 h1 h2 hbl;unfold S at*
 rcases hcase with rfl|rfl|rfl|rfl|rfl|rfl|rfl
 ·have x5:=H.out.c 1 5 rfl C5.out;go_enter Tryz.func61,Tryz.ntmps61
  go_wp2_with fail
  refine(HNI.out _ H.out.pw).mono ?_;rintro e w1 ⟨rfl,hb1⟩;go_wp2_with fail
  first|go_ret|skip
  exact⟨Qa E0.out.symm,(H.out.here hb1).bl⟩
 ·have x5:=H.out.c 1 5 rfl C5.out;have x6:=H.out.c 1 6 rfl C6.out;have x7:=H.out.c 1 7 rfl C7.out;have k16:=H.out.c 0 16 rfl K16.out
  cases cd with
  |true=>
   rw[if_pos rfl] at E1;go_enter Tryz.func61,Tryz.ntmps61
   go_wp2_with fail
   refine(HCO.out _ H.out.pw).mono ?_;rintro e w1 ⟨rfl,hb1⟩;have HA:=jq (H.out.here hb1);clear x5 x6 x7 k16;have x6:=HA.out.c 1 6 rfl C6.out
   cases co with
   |false=>
    rw[if_pos rfl] at E1;go_wp2_with fail
    first|go_ret|skip
    exact⟨Qa E1.out.symm,HA.out.bl⟩
   |true=>
    rw[if_neg (by decide)] at E1
    cases hq:(f.other==f.cur) with
    |true=>
     rw[if_pos (by simpa using hq)] at E1;go_wp2_with fail
     first|go_ret|skip
     exact⟨Qa E1.out.symm,HA.out.bl⟩
    |false=>
     rw[if_neg (by simpa using hq)] at E1;go_wp2_with fail
     first|go_ret|skip
     exact⟨Qa E1.out.symm,HA.out.bl⟩
  |false=>
   rw[if_neg (by decide)] at E1;go_enter Tryz.func61,Tryz.ntmps61
   go_wp2_with fail
   refine(HNO.out _ H.out.pw).mono ?_;rintro e w1 ⟨rfl,hb1⟩;have HA:=jq (H.out.here hb1);clear x5 x6 x7 k16;have x6:=HA.out.c 1 6 rfl C6.out
   rcases HV.out with rfl|rfl
   ·rw[if_neg (by decide)] at E1
    cases hq:(f.other==f.inst) with
    |true=>
     rw[if_pos (by simpa using hq)] at E1;go_wp2_with fail
     first|go_ret|skip
     exact⟨Qa E1.out.symm,HA.out.bl⟩
    |false=>
     rw[if_neg (by simpa using hq)] at E1;go_wp2_with fail
     first|go_ret|skip
     exact⟨Qa E1.out.symm,HA.out.bl⟩
   ·rw[if_pos (by decide)] at E1;go_wp2_with fail
    first|go_ret|skip
    exact⟨Qa E1.out.symm,HA.out.bl⟩
 ·have x7:=H.out.c 1 7 rfl C7.out
  cases cc
  all_goals
   go_enter Tryz.func61,Tryz.ntmps61
   go_wp2_with fail
   refine(HCC.out _ H.out.pw).mono ?_;rintro e w1 ⟨rfl,hb1⟩;go_wp2_with fail
   first|go_ret|skip
   exact⟨Qa (by rw[E2.out];rfl),(H.out.here hb1).bl⟩
 ·have x8:=H.out.c 1 8 rfl C8.out;go_enter Tryz.func61,Tryz.ntmps61
  go_wp2_with fail
  refine(HNT.out _ H.out.pw).mono ?_;rintro e w1 ⟨rfl,hb1⟩;go_wp2_with fail
  first|go_ret|skip
  exact⟨Qa E3.out.symm,(H.out.here hb1).bl⟩
 ·go_enter Tryz.func61,Tryz.ntmps61
  go_wp2_with fail
  refine HPK.out.mono ?_;rintro e w1 ⟨rfl,hb1⟩;go_wp2_with fail
  first|go_ret|skip
  exact⟨Qa E10.out.symm,(H.out.here hb1).bl⟩
 ·go_enter Tryz.func61,Tryz.ntmps61
  go_wp2_with fail
  refine HOP.out.mono ?_;rintro e w1 ⟨rfl,hb1⟩;go_wp2_with fail
  first|go_ret|skip
  exact⟨Qa E11.out.symm,(H.out.here hb1).bl⟩
 ·have x20:=H.out.c 1 20 rfl C20.out
  by_cases hc:f.choice<0
  ·rw[if_pos hc] at E12;go_enter Tryz.func61,Tryz.ntmps61
   go_wp2_with fail
   first|go_ret|skip
   exact⟨Qa E12.out.symm,H.out.bl⟩
  ·rw[if_neg hc] at E12;go_enter Tryz.func61,Tryz.ntmps61
   go_wp2_with fail
   first|go_ret|skip
   exact⟨Qa E12.out.symm,H.out.bl⟩
end
section
attribute [local go_sem] Oper.semAt_some
attribute [local go_sem ↓] Go.wp_at_zero Go.wp_at_succ Qr YM
theorem Zgn(A:Option Addr)(n c:Nat)(w:World)(hn:n<=100000):Calls Tryz.prog 75 #[.slice A n c,.slice none 0 0] w fun e w'=>e=.returned (.bool (decide (n=0)))/\w'=w:=by
 cases n with
 |zero=>
  go_enter Tryz.func75,Tryz.ntmps75
  go_wp2_with fail
  go_loopw [5,13] (fun _ i wr=>i=.int .i64 0/\wr=w) (fun _ i _=>0)
  case atStart=>exact⟨rfl,rfl⟩
  case round=>
   obtain⟨rfl,rfl⟩:=hrel
   go_wp2_with fail
   first|go_ret|skip
   exact⟨rfl,rfl⟩
 |succ n=>
  have h0:(((n+1:Nat):Int)==0)=false:=beq_false_of_ne (by omega);go_enter Tryz.func75,Tryz.ntmps75
  go_wp2_with fail
  first|go_ret|skip
  exact⟨rfl,rfl⟩
theorem Zgo(A:Option Addr)(n c:Nat)(w:World)(hn:n<=100000):Calls Tryz.prog 76 #[.slice A n c,.slice none 0 0] w fun e w'=>e=.returned (.bool (decide (n=0)))/\w'=w:=by
 cases n with
 |zero=>
  go_enter Tryz.func76,Tryz.ntmps76
  go_wp2_with fail
  go_loopw [5,13] (fun _ i wr=>i=.int .i64 0/\wr=w) (fun _ i _=>0)
  case atStart=>exact⟨rfl,rfl⟩
  case round=>
   obtain⟨rfl,rfl⟩:=hrel
   go_wp2_with fail
   first|go_ret|skip
   exact⟨rfl,rfl⟩
 |succ n=>
  have h0:(((n+1:Nat):Int)==0)=false:=beq_false_of_ne (by omega);go_enter Tryz.func76,Tryz.ntmps76
  go_wp2_with fail
  first|go_ret|skip
  exact⟨rfl,rfl⟩
def QD(k:List UInt8)(s:Int):Fct:=⟨k,s,true,0,0,[],[],[],[],[],[],[],⟨[],[]⟩,⟨[],[]⟩,⟨[],[]⟩,[],[],0⟩
def Qj:FaV:=⟨none,0,0,none,0,0⟩
theorem Zgp(f:Fct)(hc:f.cancelled=true):decide (f=QD f.key f.stamp)=(f.day==0&&f.kind==0&&(f.inst==[])&&(f.other==[])&&(f.cur==[])&&(f.target==[])&&(f.q==[])&&(f.amount==[])&&(f.fee==[])&&(f.price.n==[]&&f.price.d==[])&&(f.ratio.n==[]&&f.ratio.d==[])&&(f.share.n==[]&&f.share.d==[])&&f.picks.isEmpty&&f.options.isEmpty&&f.choice==0):=by
 obtain⟨key,stamp,canc,day,kind,inst,other,cur,target,q,amount,fee,⟨pn,pd⟩,⟨rn,rd⟩,⟨sn,sd⟩,picks,options,choice⟩:=f
 simp only at hc
 subst hc;rw[Bool.eq_iff_iff];simp[QD,and_assoc]
theorem Zgq(f:Fct)(v:FaV)(hc:f.cancelled=true)(w:World)(hp:Env w)(hn:v.pn<=100000)(ho:v.on<=100000)(hpl:v.pn=f.picks.length)(hol:v.on=f.options.length):
 Calls Tryz.prog 41 #[.agg (Qb f v),.agg (Qb (QD f.key f.stamp) Qj)] w fun e w'=>e=.returned (.bool (decide (f=QD f.key f.stamp)))/\Below w.1.size w w':=by
 have H1:=(Kp.start hp).new w.1.size rfl (Qb f v) 44;have H:=jq (H1.new (w.1.size+1) (by simp) (Qb (QD f.key f.stamp) Qj) 44);have HP:=jq (fun W=>Zgn v.pA v.pn v.pc W hn);have HO:=jq (fun W=>Zgo v.oA v.on v.oc W ho)
 have ep:f.picks.isEmpty=decide (v.pn=0):=by rw[hpl];cases f.picks<;>simp
 have eo:f.options.isEmpty=decide (v.on=0):=by rw[hol];cases f.options<;>simp
 rw[Zgp f hc,ep,eo];generalize decide (v.pn=0)=bp at*;generalize decide (v.on=0)=bo at*;have x0:=H.out.c 1 0 rfl (show(Qb f v)[0]?=some (.string ⟨f.key.toArray⟩) from rfl);have y0:=H.out.c 0 0 rfl (show(Qb (QD f.key f.stamp) Qj)[0]?=some (.string ⟨f.key.toArray⟩) from rfl);have x1:=H.out.c 1 1 rfl (show(Qb f v)[1]?=some (.int .i64 f.stamp) from rfl);have y1:=H.out.c 0 1 rfl (show(Qb (QD f.key f.stamp) Qj)[1]?=some (.int .i64 f.stamp) from rfl);have x2:=H.out.c 1 2 rfl (show(Qb f v)[2]?=some (.bool true) from congrArg (fun b=>some (Value.bool b)) hc);have y2:=H.out.c 0 2 rfl (show(Qb (QD f.key f.stamp) Qj)[2]?=some (.bool true) from rfl);have x3:=H.out.c 1 3 rfl (show(Qb f v)[3]?=some (.int .i64 f.day) from rfl);have y3:=H.out.c 0 3 rfl (show(Qb (QD f.key f.stamp) Qj)[3]?=some (.int .i64 0) from rfl);have x4:=H.out.c 1 4 rfl (show(Qb f v)[4]?=some (.int .i64 f.kind) from rfl);have y4:=H.out.c 0 4 rfl (show(Qb (QD f.key f.stamp) Qj)[4]?=some (.int .i64 0) from rfl);have x5:=H.out.c 1 5 rfl (show(Qb f v)[5]?=some (.string ⟨f.inst.toArray⟩) from rfl);have y5:=H.out.c 0 5 rfl (show(Qb (QD f.key f.stamp) Qj)[5]?=some (.string ⟨#[]⟩) from rfl);have x6:=H.out.c 1 6 rfl (show(Qb f v)[6]?=some (.string ⟨f.other.toArray⟩) from rfl);have y6:=H.out.c 0 6 rfl (show(Qb (QD f.key f.stamp) Qj)[6]?=some (.string ⟨#[]⟩) from rfl);have x7:=H.out.c 1 7 rfl (show(Qb f v)[7]?=some (.string ⟨f.cur.toArray⟩) from rfl);have y7:=H.out.c 0 7 rfl (show(Qb (QD f.key f.stamp) Qj)[7]?=some (.string ⟨#[]⟩) from rfl);have x8:=H.out.c 1 8 rfl (show(Qb f v)[8]?=some (.string ⟨f.target.toArray⟩) from rfl);have y8:=H.out.c 0 8 rfl (show(Qb (QD f.key f.stamp) Qj)[8]?=some (.string ⟨#[]⟩) from rfl);have x9:=H.out.c 1 9 rfl (show(Qb f v)[9]?=some (.string ⟨f.q.toArray⟩) from rfl);have y9:=H.out.c 0 9 rfl (show(Qb (QD f.key f.stamp) Qj)[9]?=some (.string ⟨#[]⟩) from rfl);have x10:=H.out.c 1 10 rfl (show(Qb f v)[10]?=some (.string ⟨f.amount.toArray⟩) from rfl);have y10:=H.out.c 0 10 rfl (show(Qb (QD f.key f.stamp) Qj)[10]?=some (.string ⟨#[]⟩) from rfl);have x11:=H.out.c 1 11 rfl (show(Qb f v)[11]?=some (.string ⟨f.fee.toArray⟩) from rfl);have y11:=H.out.c 0 11 rfl (show(Qb (QD f.key f.stamp) Qj)[11]?=some (.string ⟨#[]⟩) from rfl);have x12:=H.out.c 1 12 rfl (show(Qb f v)[12]?=some (.string ⟨f.price.n.toArray⟩) from rfl);have y12:=H.out.c 0 12 rfl (show(Qb (QD f.key f.stamp) Qj)[12]?=some (.string ⟨#[]⟩) from rfl);have x13:=H.out.c 1 13 rfl (show(Qb f v)[13]?=some (.string ⟨f.price.d.toArray⟩) from rfl);have y13:=H.out.c 0 13 rfl (show(Qb (QD f.key f.stamp) Qj)[13]?=some (.string ⟨#[]⟩) from rfl);have x14:=H.out.c 1 14 rfl (show(Qb f v)[14]?=some (.string ⟨f.ratio.n.toArray⟩) from rfl);have y14:=H.out.c 0 14 rfl (show(Qb (QD f.key f.stamp) Qj)[14]?=some (.string ⟨#[]⟩) from rfl);have x15:=H.out.c 1 15 rfl (show(Qb f v)[15]?=some (.string ⟨f.ratio.d.toArray⟩) from rfl);have y15:=H.out.c 0 15 rfl (show(Qb (QD f.key f.stamp) Qj)[15]?=some (.string ⟨#[]⟩) from rfl);have x16:=H.out.c 1 16 rfl (show(Qb f v)[16]?=some (.string ⟨f.share.n.toArray⟩) from rfl);have y16:=H.out.c 0 16 rfl (show(Qb (QD f.key f.stamp) Qj)[16]?=some (.string ⟨#[]⟩) from rfl);have x17:=H.out.c 1 17 rfl (show(Qb f v)[17]?=some (.string ⟨f.share.d.toArray⟩) from rfl);have y17:=H.out.c 0 17 rfl (show(Qb (QD f.key f.stamp) Qj)[17]?=some (.string ⟨#[]⟩) from rfl);have x18:=H.out.c 1 18 rfl (show(Qb f v)[18]?=some (.slice v.pA v.pn v.pc) from rfl);have y18:=H.out.c 0 18 rfl (show(Qb (QD f.key f.stamp) Qj)[18]?=some (.slice none 0 0) from rfl);have x19:=H.out.c 1 19 rfl (show(Qb f v)[19]?=some (.slice v.oA v.on v.oc) from rfl);have y19:=H.out.c 0 19 rfl (show(Qb (QD f.key f.stamp) Qj)[19]?=some (.slice none 0 0) from rfl);have x20:=H.out.c 1 20 rfl (show(Qb f v)[20]?=some (.int .i64 f.choice) from rfl);have y20:=H.out.c 0 20 rfl (show(Qb (QD f.key f.stamp) Qj)[20]?=some (.int .i64 0) from rfl);generalize Qb f v=fa at*;generalize Qb (QD f.key f.stamp) Qj=fb at*;have HB:=jq H.out.bl;clear hp hn ho hpl hol H1 ep eo hc H;go_enter Tryz.func41,Tryz.ntmps41
 go_upto_region 1 with (fail)
 generalize (w.alloc (.cells fa 44)).alloc (.cells fb 44)=W at*
 go_wp2_with (first
  |(go_at_call 75;refine(HP.out _).mono ?_;rintro e w1 ⟨rfl,rfl⟩;cases bp)
  |(go_at_call 76;refine(HO.out _).mono ?_;rintro e w1 ⟨rfl,rfl⟩;cases bo))
 all_goals
  first|go_ret|skip
  refine⟨Qy ?_,HB.out⟩;simp[*]
end
section
def kZ:Array Value:=kB [] 0 (fun _=>false) (.map none) false
def KOk(W:World)(k:Int)(kb:Array Value):Prop:=match XE k with|some r=>∃word mv,kb=kB word r.cls r.has mv r.code/\LimM W mv r.nums|none=>kb=kZ
theorem LimM.row{W:World}{g:Nat}{mv:Value}{nums:List (Nat×Bool×Bool)}{old:Array Value}(h:LimM W mv nums)(hg:BlkB W g old 87)(c:Array Value):LimM (W.setRow g c) mv nums:=by
 rcases h with h|⟨b,n,e,h⟩
 ·exact .inl h
 ·exact .inr ⟨b,n,e,h.row hg c⟩
section
variable {W W':World} {k:Int} {kb:Array Value}
theorem KOk.here(h:KOk W k kb)(hb:Below W.1.size W W'):KOk W' k kb:=by
 unfold KOk at*
 split<;>rename_i e<;>rw[e] at h
 ·obtain⟨word,mv,e1,h⟩:=h;exact⟨word,mv,e1,h.here hb⟩
 ·exact h
theorem KOk.row{g:Nat}{old:Array Value}(h:KOk W k kb)(hg:BlkB W g old 87)(c:Array Value):KOk (W.setRow g c) k kb:=by
 unfold KOk at*
 split<;>rename_i e<;>rw[e] at h
 ·obtain⟨word,mv,e1,h⟩:=h;exact⟨word,mv,e1,h.row hg c⟩
 ·exact h
theorem KOk.size(h:KOk W k kb):kb.size=17:=by
 unfold KOk at h
 split at h
 ·obtain⟨word,mv,rfl,h⟩:=h;rfl
 ·subst h;rfl
theorem KOk.cell(h:KOk W k kb):kb.all (·.oneCell')=true:=by
 unfold KOk at h
 split at h
 ·obtain⟨word,mv,rfl,h⟩:=h
  refine Yw _ _ _ _ _ ?_
  rcases h with ⟨rfl,_⟩|⟨b,n,rfl,_⟩<;>rfl
 ·subst h;exact Yw _ _ _ _ _ rfl
theorem RowsB.look{bm:Nat}(h:RowsB W bm 18 Vt)(hk:Jd k):∃kb,(Instr.lookup 89 (.map (some bm)) (.int .i64 k) true).run Tryz.prog W=.ok (.tuple #[.agg kb,.bool (XE k).isSome]) W/\KOk W k kb:=by
 obtain⟨m,hm,hr⟩:=h
 have e:=hm.lookOk (t:=89) (e:=87) (k:=k) Tryz.underlying89 (z:=.agg kZ) (by kernel_rfl) hk.1 hk.2;have h1:=hr k;have h2:=ZeK k;rw[e]
 cases hf:Vt.find? (fun x=>x.1==k) with
 |none=>
  rw[hf] at h1 h2;have h2':XE k=none:=h2.symm;simp only at h1
  refine⟨kZ,by rw[h1,h2'];rfl,?_⟩;unfold KOk;rw[h2']
 |some x=>
  rw[hf] at h1 h2;have h2':XE k=some x.2:=h2.symm;obtain⟨v,h3,word,mv,rfl,h4,h5⟩:=h1
  refine⟨_,by rw[h3,h2'];rfl,?_⟩;unfold KOk;rw[h2'];exact⟨word,mv,rfl,h4⟩
end
noncomputable def JA:Array Oper:=((Tryz.f27.body).bind (VN 11)).getD #[]
def Zaw(i:Nat):Option Nat:=match i with|0=>some 33|1=>some 34|2=>some 35|3=>some 36|4=>some 32|5=>some 37|6=>some 38|7=>some 3|9=>some 4|_=>none
def ckF(k:Int)(b0:Nat)(l:Array Bool)(sv:Nat->Value)(W:World)(i:Nat):Prop:=
 match i with
 |0=>∃bm,sv 33=.map (some bm)/\(l.getD 3 false=false->RowsB W bm 18 Vt)
 |1=>sv 34=.pointer (some ⟨b0,4,none⟩)
 |2=>sv 35=.int .i64 k
 |3=>∃kb,sv 36=.tuple #[.agg kb,.bool (XE k).isSome]/\KOk W k kb
 |4=>∃kb,sv 32=.tuple #[.agg kb,.bool (XE k).isSome]/\KOk W k kb
 |5=>∃kb,sv 37=.agg kb/\KOk W k kb
 |6=>sv 38=.bool (XE k).isSome
 |7=>∃g cs,sv 3=.pointer (some ⟨g,0,none⟩)/\b0<g/\BlkB W g cs 87/\cs.size=17/\(l.getD 8 false=true->KOk W k cs)
 |8=>l.getD 7 false=true
 |9=>sv 4=.bool (XE k).isSome
 |_=>True
theorem ckF.keep{k:Int}{b0:Nat}{l l':Array Bool}{sv sv':Nat->Value}{W W':World}{i:Nat}(h:ckF k b0 l sv W i)(hs:∀s,Zaw i=some s->sv' s=sv s)(hb:Below W.1.size W W')(h3:l'.getD 3 false=false->l.getD 3 false=false)
 (h8:l'.getD 8 false=true->l.getD 8 false=true) (h7:l.getD 7 false=true->l'.getD 7 false=true):ckF k b0 l' sv' W' i:=by
 unfold ckF at*
 split at h
 ·obtain⟨bm,e,hr⟩:=h;exact⟨bm,(hs _ rfl).trans e,fun h=>(hr (h3 h)).here hb⟩
 ·exact(hs _ rfl).trans h
 ·exact(hs _ rfl).trans h
 ·obtain⟨kb,e,hr⟩:=h;exact⟨kb,(hs _ rfl).trans e,hr.here hb⟩
 ·obtain⟨kb,e,hr⟩:=h;exact⟨kb,(hs _ rfl).trans e,hr.here hb⟩
 ·obtain⟨kb,e,hr⟩:=h;exact⟨kb,(hs _ rfl).trans e,hr.here hb⟩
 ·exact(hs _ rfl).trans h
 ·obtain⟨g,cs,e,h1,h2,h4,h5⟩:=h;exact⟨g,cs,(hs _ rfl).trans e,h1,h2.here hb,h4,fun h=>(h5 (h8 h)).here hb⟩
 ·exact h7 h
 ·exact(hs _ rfl).trans h
 ·trivial
structure CkI (w:World) (k:Int) (fb:Array Value) (l:Array Bool) (a:Act) (W:World):Prop where
 sz:l.size=10
 ts:a.tmps.size=60
 df:a.defers=[]
 kp:Kp w [(w.1.size,fb,44)] W
 s1:Qs a 1=.pointer (some ⟨w.1.size,0,none⟩)
 f:∀i,i<10->l.getD i false=true->ckF k w.1.size l (Qs a) W i
theorem Zgr(i j s:Nat)(h:i≠j)(hs:Zaw j=some s):Zaw i≠some s:=by
 unfold Zaw at*
 intro h2
 split at hs<;>split at h2<;>first|(simp_all;done)|(simp_all;omega)
theorem Zgs(a:Act)(t:Option Nat)(v:Value):(a.put t v).tmps.size=a.tmps.size:=by
 unfold Act.put
 cases t<;>simp
theorem Zgt(a:Act)(t:Option Nat)(v:Value):(a.put t v).defers=a.defers:=by
 unfold Act.put
 cases t<;>rfl
theorem CkI.next{w:World}{k:Int}{fb:Array Value}{l:Array Bool}{a:Act}{W W':World}(h:CkI w k fb l a W)(i:Nat)(hi:i<10)(h8:i≠8)(v:Value)(hb:Below W.1.size W W')
 (hf:ckF k w.1.size (l.setIfInBounds i true) (Qs (a.put (Zaw i) v)) W' i):CkI w k fb (l.setIfInBounds i true) (a.put (Zaw i) v) W':=by
 have hil:i<l.size:=by rw[h.sz];exact hi
 refine⟨by simp[h.sz],by rw[Zgs];exact h.ts,by rw[Zgt];exact h.df,h.kp.here hb,(QV ?_).trans h.s1,fun j hj hl=> ?_⟩
 ·unfold Zaw
  split<;>simp
 ·by_cases e:j=i
  ·subst e;exact hf
  ·rw[Qq e] at hl;refine(h.f j hj hl).keep (fun s hs=>QV (Zgr i j s (fun e2=>e e2.symm) hs)) hb (fun h3=> ?_) (fun h3=> ?_) (fun h3=> ?_)
   ·by_cases e3:i=3
    ·subst e3;rw[XW hil] at h3;cases h3
    ·rwa [Qq (fun e2=>e3 e2.symm)] at h3
   ·rwa [Qq (fun e2=>h8 e2.symm)] at h3
   ·by_cases e3:i=7
    ·subst e3;exact XW hil
    ·rwa [Qq (fun e2=>e3 e2.symm)]
theorem CkI.store{w:World}{k:Int}{fb:Array Value}{l:Array Bool}{a:Act}{W:World}(h:CkI w k fb l a W)(h3:l.getD 3 false=true)(h7:l.getD 7 false=true){g:Nat}{kb cs:Array Value}(hk:KOk W k kb)(hg:BlkB W g cs 87)(hs:Qs a 3=.pointer (some ⟨g,0,none⟩))(hgw:w.1.size<g)(v:Value):
 CkI w k fb (l.setIfInBounds 8 true) (a.put none v) (W.setRow g kb):=by
 have hp:∀s,Qs (a.put none v) s=Qs a s:=fun s=>QV (by simp)
 refine⟨by simp[h.sz],by rw[Zgs];exact h.ts,by rw[Zgt];exact h.df,?_,(hp 1).trans h.s1,fun j hj hl=> ?_⟩
 ·refine⟨h.kp.pow,h.kp.bl.trans (Za1 W (by omega) kb),h.kp.own,h.kp.ord,fun b hb=> ?_⟩;have:=h.kp.blk b hb
  simp only[List.mem_singleton] at hb;subst hb;exact(QF W g kb (by show w.1.size≠g;omega)).trans this
 ·have e3:(l.setIfInBounds 8 true).getD 3 false=true:=by rw[Qq (by omega)];exact h3
  by_cases e:j=8
  ·subst e;show(l.setIfInBounds 8 true).getD 7 false=true;rw[Qq (by omega)];exact h7
  ·rw[Qq e] at hl;have hf:=h.f j hj hl;unfold ckF at*
   split at hf
   ·obtain⟨bm,e,hr⟩:=hf;exact⟨bm,(hp _).trans e,fun h=>by rw[e3] at h;cases h⟩
   ·exact(hp _).trans hf
   ·exact(hp _).trans hf
   ·obtain⟨kb,e,hr⟩:=hf;exact⟨kb,(hp _).trans e,hr.row hg _⟩
   ·obtain⟨kb,e,hr⟩:=hf;exact⟨kb,(hp _).trans e,hr.row hg _⟩
   ·obtain⟨kb,e,hr⟩:=hf;exact⟨kb,(hp _).trans e,hr.row hg _⟩
   ·exact(hp _).trans hf
   ·exact⟨g,kb,(hp _).trans hs,hgw,Vp kb hg,hk.size,fun _=>hk.row hg _⟩
   ·exact absurd rfl e
   ·exact(hp _).trans hf
   ·trivial
end
end Go.Proofs.YtbcnkcldlealjaaGreatDoor
