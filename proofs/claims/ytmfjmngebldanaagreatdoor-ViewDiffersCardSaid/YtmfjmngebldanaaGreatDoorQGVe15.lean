/- Fa7, Fa8, Fa9, Fb0, Fb1, Fb2. -/
import Derived.Test.YtmfjmngebldanaaGreatDoorQGVe11
import Derived.Test.YtmfjmngebldanaaGreatDoorQGVe14
set_option maxRecDepth 100000
set_option maxHeartbeats 8000000
namespace Go.Proofs.YtmfjmngebldanaaGreatDoor
open Go.Lib renaming hid→jq
open Go.RowKit Go.Shelf
section
attribute [local go_sem] Oper.semAt_some
attribute [local go_sem ↓] Go.wp_at_zero Go.wp_at_succ Ql VV
def nmC(s:List UInt8):Int:=if Qr s=false then 23 else 0
theorem Zac(s:List UInt8):Zc4 111 #[S s] (.int .i64 (nmC s)):=by
 intro w hp;have H:=jq (Kp.start hp);have HN:=jq (ZaF s);have HC:=jq (show nmC s=if Qr s=false then 23 else 0 from rfl);generalize nmC s=res at*;generalize Qr s=nb at*;unfold S at*
 clear hp
 cases nb
 all_goals
  go_enter Tryz.func111,Tryz.ntmps111
  go_wp2_with fail
  refine(HN.out _ H.out.pw).mono ?_;rintro e w1 ⟨rfl,hb⟩;go_wp2_with fail
  first|go_ret|skip
  exact⟨Qa (by rw[HC.out];rfl),(H.out.here hb).bl⟩
theorem Zkh{W:World}{m:Int->Option Value}{nums:List (Nat×Bool×Bool)}{i:Nat}{y:Nat×Bool×Bool}(h:LimI W m nums)(hf:nums.find? (fun x=>x.1==i)=some y):∃cl,m (i:Int)=some cl/\LimV W cl y.2.1 y.2.2:=by
 have h1:=h (i:Int)
 have e:(fun x:Nat×Bool×Bool=>(x.1:Int)==(i:Int))=(fun x=>x.1==i):=by
  funext x
  rw[Bool.eq_iff_iff,beq_iff_eq,beq_iff_eq];omega
 rw[e,hf] at h1;exact h1
theorem Zki(f:Fct)(r:KRow)(i:Nat)(h1:4<=i)(h2:i<=9){y:Nat×Bool×Bool}(hf:r.nums.find? (fun x=>x.1==i)=some y):Qy f r i=Qv y.2.1 y.2.2 (f.num i):=by
 have h:i=4\/i=5\/i=6\/i=7\/i=8\/i=9:=by omega
 obtain⟨a,b,c⟩:=y
 rcases h with rfl|rfl|rfl|rfl|rfl|rfl<;>simp[Qy,hf]
theorem Zm8{f:Fct}(h:f.Sz 1000)(i:Nat):(f.num i).Sz 1000:=by
 unfold Fct.num
 split
 ·exact⟨h.q,by simp⟩
 ·exact⟨h.amount,by simp⟩
 ·exact⟨h.fee,by simp⟩
 ·exact h.price
 ·exact h.ratio
 ·exact h.share
 ·exact⟨by simp,by simp⟩
theorem Zic(f:Fct)(v:FaV)(r:KRow)(word:List UInt8)(mv:Value)(i:Nat)(h1:4<=i)(h2:i<=9)(y:Nat×Bool×Bool)(hy:r.nums.find? (fun x=>x.1==i)=some y)(w:World)(hp:Env w)(hf:f.Sz 1000)(hl:LimM w mv r.nums):
 Calls Tryz.prog 73 #[.agg (Qb f v),.agg (kB word r.cls r.has mv r.code),.int .i64 (i:Int)] w fun e w'=>e=.returned (.int .i64 (Qy f r i))/\Below w.1.size w w':=by
 rw[Zki f r i h1 h2 hy]
 rcases hl with ⟨rfl,e⟩|⟨b,n,rfl,m,him,hI⟩
 ·rw[e] at hy;cases hy
 obtain⟨cl,hm,hcl⟩:=Zkh hI hy
 obtain⟨b1,b2,rfl,hb1,hb2⟩:=hcl
 have H1:=(Kp.start hp).new w.1.size rfl (Qb f v) 43;have H:=jq (H1.new (w.1.size+1) (by simp) (kB word r.cls r.has (.map (some b)) r.code) 104);have HV:=jq (fun W hp=>Zdp f v i h1 h2 W hp);have HLM:=jq (fun W (hb:Below w.1.size w W)=>ZaW y.2.1 y.2.2 (f.num i) b1 b2 W (hp.here hb) (Zm8 hf i) (hb1.here hb) (hb2.here hb))
 have HLK:=jq (show ∀W,Below w.1.size w W->(Instr.lookup 102 (.map (some b)) (.int .i64 (i:Int)) false).run Tryz.prog W=.ok (.func (.func 136) #[] #[.pointer (some ⟨b1,0,none⟩),.pointer (some ⟨b2,0,none⟩)]) W from fun W hb=>by
  have:=(him.here hb).look (t:=102) (e:=139) (k:=(i:Int)) Tryz.underlying102 (z:=.nilFunc) (by kernel_rfl) (by omega) (by omega)
  rw[this,hm];rfl)
 have n0:((i:Int)==0)=false:=beq_false_of_ne (by omega);have n1:((i:Int)==1)=false:=beq_false_of_ne (by omega);have n2:((i:Int)==2)=false:=beq_false_of_ne (by omega);have n3:((i:Int)==3)=false:=beq_false_of_ne (by omega);have n10:((i:Int)==10)=false:=beq_false_of_ne (by omega);have n11:((i:Int)==11)=false:=beq_false_of_ne (by omega);have n12:((i:Int)==12)=false:=beq_false_of_ne (by omega);generalize Qv y.2.1 y.2.2 (f.num i)=res at*;generalize f.num i=z at*;generalize (i:Int)=ii at*;have F21:=Qg f v;have K15:(kB word r.cls r.has (.map (some b)) r.code)[15]?=some (.map (some b)):=rfl;have HF21:=jq F21;have HK15:=jq K15;generalize Qb f v=fb at*;generalize kB word r.cls r.has (.map (some b)) r.code=kb at*;clear hp hf hm him hI hb1 hb2 H1 h1 h2 hy F21 K15;unfold Xg S at*
 go_enter Tryz.func73,Tryz.ntmps73
 go_upto_region 3 with (fail)
 generalize (w.alloc (.cells fb 43)).alloc (.cells kb 104)=W0 at*
 have hS:=jq (fun V (h:Bz W0 V)=>(show V.cell? ⟨w.1.size+1,15,none⟩=some (.map (some b))/\(Vj (.pointer (some ⟨w.1.size,0,none⟩))).run Tryz.prog V=.ok (.agg fb) V/\(Instr.lookup 102 (.map (some b)) (.int .i64 ii) false).run Tryz.prog V=.ok (.func (.func 136) #[] #[.pointer (some ⟨b1,0,none⟩),.pointer (some ⟨b2,0,none⟩)]) V from
  ⟨(H.out.here h).c 0 15 rfl HK15.out,Qj ((H.out.here h).at_ 1 rfl) HF21.out,HLK.out V (H.out.here h).bl⟩))
 have hE:=jq (fun V (h:Bz W0 V)=>(H.out.here h).pw);have hB:=jq (fun V (h:Bz W0 V)=>(H.out.here h).bl)
 go_region_held3 (fun V=>V.cell? ⟨w.1.size+1,15,none⟩=some (.map (some b))/\(Vj (.pointer (some ⟨w.1.size,0,none⟩))).run Tryz.prog V=.ok (.agg fb) V/\(Instr.lookup 102 (.map (some b)) (.int .i64 ii) false).run Tryz.prog V=.ok (.func (.func 136) #[] #[.pointer (some ⟨b1,0,none⟩),.pointer (some ⟨b2,0,none⟩)]) V)
  (first
    |exact hS.out _ (by repeat' (first|assumption|exact Bz.refl _|refine Bz.drew ?_|refine Bz.alloc ?_ _|refine Bz.set ?_ (by first|assumption|exact Nat.le_refl _|exact Bz.size (by assumption)) _ _))
    |go_keep)
  (first
    |(go_at_call 115;refine(HV.out _ (hE.out _ (by repeat' (first|assumption|exact Bz.refl _|refine Bz.drew ?_|refine Bz.alloc ?_ _|refine Bz.set ?_ (by first|assumption|exact Nat.le_refl _|exact Bz.size (by assumption)) _ _)))).mono ?_;rintro e v1 ⟨rfl,hb1⟩;have hz1:Bz W0 v1:=Bz.call (by repeat' (first|assumption|exact Bz.refl _|refine Bz.drew ?_|refine Bz.alloc ?_ _|refine Bz.set ?_ (by first|assumption|exact Nat.le_refl _|exact Bz.size (by assumption)) _ _)) hb1)
    |(go_at_call 136;refine(HLM.out _ (hB.out _ (by repeat' (first|assumption|exact Bz.refl _|refine Bz.drew ?_|refine Bz.alloc ?_ _|refine Bz.set ?_ (by first|assumption|exact Nat.le_refl _|exact Bz.size (by assumption)) _ _)))).mono ?_;rintro e v3 ⟨rfl,hb3⟩;have hz3:Bz W0 v3:=Bz.call (by repeat' (first|assumption|exact Bz.refl _|refine Bz.drew ?_|refine Bz.alloc ?_ _|refine Bz.set ?_ (by first|assumption|exact Nat.le_refl _|exact Bz.size (by assumption)) _ _)) hb3))
 all_goals
  go_wp2_with fail
  first|go_ret|skip
  exact⟨rfl,(H.out.here hz3).bl⟩
end
section
attribute [local go_sem] Oper.semAt_some
attribute [local go_sem ↓] Go.wp_at_zero Go.wp_at_succ Ql VV
theorem Zkj(s:List UInt8):nmC s=0\/nmC s=23:=by unfold nmC;split<;>simp
theorem Ze8(f:Fct)(v:FaV)(r:KRow)(word:List UInt8)(mv:Value)(i:Nat)(h1:i<=12)(h2:i<4\/9<i)(w:World)(hp:Env w)(hf:f.Sz 1000)(hm:FaM w w.1.size f v)(hpn:v.pn<=100000)(hon:v.on<=100000):
 Calls Tryz.prog 73 #[.agg (Qb f v),.agg (kB word r.cls r.has mv r.code),.int .i64 (i:Int)] w fun e w'=>e=.returned (.int .i64 (Qy f r i))/\Below w.1.size w w':=by
 have H1:=(Kp.start hp).new w.1.size rfl (Qb f v) 43;have H:=jq (H1.new (w.1.size+1) (by simp) (kB word r.cls r.has mv r.code) 104);have hbl:=H.out.bl;have HNI:=jq (Zac f.inst);have HNT:=jq (Zac f.target);have HNO:=jq (Zac f.other);have HCO:=jq (Zch f.other (by have:=hf.other;omega));have HCC:=jq (Zch f.cur (by have:=hf.cur;omega));have HPK:=jq (Zcj f v _ H.out.pw hf (hm.here hbl) hpn);have HOP:=jq (Za6 f v _ H.out.pw hf (hm.here hbl) hon);have hl:=Qj (H.out.at_ 1 rfl) (Qg f v);have E0:=jq (show Qy f r 0=nmC f.inst from rfl);have E3:=jq (show Qy f r 3=nmC f.target from rfl)
 have E1:=jq (show Qy f r 1=if r.code=true then(if Yq f.other=false then 12 else if f.other=f.cur then 18 else 0) else if nmC f.other≠0 then nmC f.other else if f.other=f.inst then 18 else 0 by
  show(if r.code=true then _ else if Qr f.other=false then 23 else _)=_
  unfold nmC
  by_cases h:Qr f.other=false<;>simp[h])
 have E2:=jq (show Qy f r 2=if Yq f.cur=false then 12 else 0 from rfl);have E10:=jq (show Qy f r 10=YM f from rfl);have E11:=jq (show Qy f r 11=VU f from rfl);have E12:=jq (show Qy f r 12=if f.choice<0 then 2 else 0 from rfl);have HV:=jq (Zkj f.other);have C5:=jq (show(Qb f v)[5]?=some (.string ⟨f.inst.toArray⟩) from rfl);have C6:=jq (show(Qb f v)[6]?=some (.string ⟨f.other.toArray⟩) from rfl);have C7:=jq (show(Qb f v)[7]?=some (.string ⟨f.cur.toArray⟩) from rfl);have C8:=jq (show(Qb f v)[8]?=some (.string ⟨f.target.toArray⟩) from rfl);have C20:=jq (show(Qb f v)[20]?=some (.int .i64 f.choice) from rfl);have K16:=jq (show(kB word r.cls r.has mv r.code)[16]?=some (.bool r.code) from rfl);generalize Qy f r=fl at*;generalize YM f=pk at*;generalize VU f=op at*;generalize nmC f.inst=n0 at*;generalize nmC f.target=n3 at*;generalize nmC f.other=n1 at*;generalize Yq f.other=co at*;generalize Yq f.cur=cc at*;generalize Qb f v=fb at*;generalize r.code=cd at*;generalize kB word r.cls r.has mv cd=kb at*;have hcase:i=0\/i=1\/i=2\/i=3\/i=10\/i=11\/i=12:=by omega
 clear hp hf hm hpn hon H1 h1 h2 hbl;unfold S at*
 rcases hcase with rfl|rfl|rfl|rfl|rfl|rfl|rfl
 ·have x5:=H.out.c 1 5 rfl C5.out;go_enter Tryz.func73,Tryz.ntmps73
  go_wp2_with fail
  refine(HNI.out _ H.out.pw).mono ?_;rintro e w1 ⟨rfl,hb1⟩;go_wp2_with fail
  first|go_ret|skip
  exact⟨Qa E0.out.symm,(H.out.here hb1).bl⟩
 ·have x5:=H.out.c 1 5 rfl C5.out;have x6:=H.out.c 1 6 rfl C6.out;have x7:=H.out.c 1 7 rfl C7.out;have k16:=H.out.c 0 16 rfl K16.out
  cases cd with
  |true=>
   rw[if_pos rfl] at E1;go_enter Tryz.func73,Tryz.ntmps73
   go_wp2_with fail
   refine(HCO.out _ H.out.pw).mono ?_;rintro e w1 ⟨rfl,hb1⟩;have HA:=jq (H.out.here hb1);clear x5 x6 x7 k16;have x6:=HA.out.c 1 6 rfl C6.out
   cases co with
   |false=>
    rw[if_pos rfl] at E1;go_wp2_with fail
    first|go_ret|skip
    exact⟨Qa E1.out.symm,HA.out.bl⟩
   |true=>
    rw[if_neg (by decide)] at E1
    cases hq:(f.other==f.cur) with
    |true=>
     rw[if_pos (by simpa using hq)] at E1;go_wp2_with fail
     first|go_ret|skip
     exact⟨Qa E1.out.symm,HA.out.bl⟩
    |false=>
     rw[if_neg (by simpa using hq)] at E1;go_wp2_with fail
     first|go_ret|skip
     exact⟨Qa E1.out.symm,HA.out.bl⟩
  |false=>
   rw[if_neg (by decide)] at E1;go_enter Tryz.func73,Tryz.ntmps73
   go_wp2_with fail
   refine(HNO.out _ H.out.pw).mono ?_;rintro e w1 ⟨rfl,hb1⟩;have HA:=jq (H.out.here hb1);clear x5 x6 x7 k16;have x6:=HA.out.c 1 6 rfl C6.out
   rcases HV.out with rfl|rfl
   ·rw[if_neg (by decide)] at E1
    cases hq:(f.other==f.inst) with
    |true=>
     rw[if_pos (by simpa using hq)] at E1;go_wp2_with fail
     first|go_ret|skip
     exact⟨Qa E1.out.symm,HA.out.bl⟩
    |false=>
     rw[if_neg (by simpa using hq)] at E1;go_wp2_with fail
     first|go_ret|skip
     exact⟨Qa E1.out.symm,HA.out.bl⟩
   ·rw[if_pos (by decide)] at E1;go_wp2_with fail
    first|go_ret|skip
    exact⟨Qa E1.out.symm,HA.out.bl⟩
 ·have x7:=H.out.c 1 7 rfl C7.out
  cases cc
  all_goals
   go_enter Tryz.func73,Tryz.ntmps73
   go_wp2_with fail
   refine(HCC.out _ H.out.pw).mono ?_;rintro e w1 ⟨rfl,hb1⟩;go_wp2_with fail
   first|go_ret|skip
   exact⟨Qa (by rw[E2.out];rfl),(H.out.here hb1).bl⟩
 ·have x8:=H.out.c 1 8 rfl C8.out;go_enter Tryz.func73,Tryz.ntmps73
  go_wp2_with fail
  refine(HNT.out _ H.out.pw).mono ?_;rintro e w1 ⟨rfl,hb1⟩;go_wp2_with fail
  first|go_ret|skip
  exact⟨Qa E3.out.symm,(H.out.here hb1).bl⟩
 ·go_enter Tryz.func73,Tryz.ntmps73
  go_wp2_with fail
  refine HPK.out.mono ?_;rintro e w1 ⟨rfl,hb1⟩;go_wp2_with fail
  first|go_ret|skip
  exact⟨Qa E10.out.symm,(H.out.here hb1).bl⟩
 ·go_enter Tryz.func73,Tryz.ntmps73
  go_wp2_with fail
  refine HOP.out.mono ?_;rintro e w1 ⟨rfl,hb1⟩;go_wp2_with fail
  first|go_ret|skip
  exact⟨Qa E11.out.symm,(H.out.here hb1).bl⟩
 ·have x20:=H.out.c 1 20 rfl C20.out
  by_cases hc:f.choice<0
  ·rw[if_pos hc] at E12;go_enter Tryz.func73,Tryz.ntmps73
   go_wp2_with fail
   first|go_ret|skip
   exact⟨Qa E12.out.symm,H.out.bl⟩
  ·rw[if_neg hc] at E12;go_enter Tryz.func73,Tryz.ntmps73
   go_wp2_with fail
   first|go_ret|skip
   exact⟨Qa E12.out.symm,H.out.bl⟩
end
section
attribute [local go_sem] Oper.semAt_some
attribute [local go_sem ↓] Go.wp_at_zero Go.wp_at_succ Ql VV
theorem Zkk(A:Option Addr)(n c:Nat)(w:World)(hn:n<=100000):Calls Tryz.prog 65 #[.slice A n c,.slice none 0 0] w fun e w'=>e=.returned (.bool (decide (n=0)))/\w'=w:=by
 cases n with
 |zero=>
  go_enter Tryz.func65,Tryz.ntmps65
  go_wp2_with fail
  go_loopw [5,13] (fun _ i wr=>i=.int .i64 0/\wr=w) (fun _ i _=>0)
  case atStart=>exact⟨rfl,rfl⟩
  case round=>
   obtain⟨rfl,rfl⟩:=hrel
   go_wp2_with fail
   first|go_ret|skip
   exact⟨rfl,rfl⟩
 |succ n=>
  have h0:(((n+1:Nat):Int)==0)=false:=beq_false_of_ne (by omega);go_enter Tryz.func65,Tryz.ntmps65
  go_wp2_with fail
  first|go_ret|skip
  exact⟨rfl,rfl⟩
theorem Zkl(A:Option Addr)(n c:Nat)(w:World)(hn:n<=100000):Calls Tryz.prog 66 #[.slice A n c,.slice none 0 0] w fun e w'=>e=.returned (.bool (decide (n=0)))/\w'=w:=by
 cases n with
 |zero=>
  go_enter Tryz.func66,Tryz.ntmps66
  go_wp2_with fail
  go_loopw [5,13] (fun _ i wr=>i=.int .i64 0/\wr=w) (fun _ i _=>0)
  case atStart=>exact⟨rfl,rfl⟩
  case round=>
   obtain⟨rfl,rfl⟩:=hrel
   go_wp2_with fail
   first|go_ret|skip
   exact⟨rfl,rfl⟩
 |succ n=>
  have h0:(((n+1:Nat):Int)==0)=false:=beq_false_of_ne (by omega);go_enter Tryz.func66,Tryz.ntmps66
  go_wp2_with fail
  first|go_ret|skip
  exact⟨rfl,rfl⟩
def Xd(k:List UInt8)(s:Int):Fct:=⟨k,s,true,0,0,[],[],[],[],[],[],[],⟨[],[]⟩,⟨[],[]⟩,⟨[],[]⟩,[],[],0⟩
def Qx:FaV:=⟨none,0,0,none,0,0⟩
theorem Zkm(f:Fct)(hc:f.cancelled=true):decide (f=Xd f.key f.stamp)=(f.day==0&&f.kind==0&&(f.inst==[])&&(f.other==[])&&(f.cur==[])&&(f.target==[])&&(f.q==[])&&(f.amount==[])&&(f.fee==[])&&(f.price.n==[]&&f.price.d==[])&&(f.ratio.n==[]&&f.ratio.d==[])&&(f.share.n==[]&&f.share.d==[])&&f.picks.isEmpty&&f.options.isEmpty&&f.choice==0):=by
 obtain⟨key,stamp,canc,day,kind,inst,other,cur,target,q,amount,fee,⟨pn,pd⟩,⟨rn,rd⟩,⟨sn,sd⟩,picks,options,choice⟩:=f
 simp only at hc
 subst hc;rw[Bool.eq_iff_iff];simp[Xd,and_assoc]
theorem Zkn(f:Fct)(v:FaV)(hc:f.cancelled=true)(w:World)(hp:Env w)(hn:v.pn<=100000)(ho:v.on<=100000)(hpl:v.pn=f.picks.length)(hol:v.on=f.options.length):
 Calls Tryz.prog 35 #[.agg (Qb f v),.agg (Qb (Xd f.key f.stamp) Qx)] w fun e w'=>e=.returned (.bool (decide (f=Xd f.key f.stamp)))/\Below w.1.size w w':=by
 have H1:=(Kp.start hp).new w.1.size rfl (Qb f v) 43;have H:=jq (H1.new (w.1.size+1) (by simp) (Qb (Xd f.key f.stamp) Qx) 43);have HP:=jq (fun W=>Zkk v.pA v.pn v.pc W hn);have HO:=jq (fun W=>Zkl v.oA v.on v.oc W ho)
 have ep:f.picks.isEmpty=decide (v.pn=0):=by rw[hpl];cases f.picks<;>simp
 have eo:f.options.isEmpty=decide (v.on=0):=by rw[hol];cases f.options<;>simp
 rw[Zkm f hc,ep,eo];generalize decide (v.pn=0)=bp at*;generalize decide (v.on=0)=bo at*;have x0:=H.out.c 1 0 rfl (show(Qb f v)[0]?=some (.string ⟨f.key.toArray⟩) from rfl);have y0:=H.out.c 0 0 rfl (show(Qb (Xd f.key f.stamp) Qx)[0]?=some (.string ⟨f.key.toArray⟩) from rfl);have x1:=H.out.c 1 1 rfl (show(Qb f v)[1]?=some (.int .i64 f.stamp) from rfl);have y1:=H.out.c 0 1 rfl (show(Qb (Xd f.key f.stamp) Qx)[1]?=some (.int .i64 f.stamp) from rfl);have x2:=H.out.c 1 2 rfl (show(Qb f v)[2]?=some (.bool true) from congrArg (fun b=>some (Value.bool b)) hc);have y2:=H.out.c 0 2 rfl (show(Qb (Xd f.key f.stamp) Qx)[2]?=some (.bool true) from rfl);have x3:=H.out.c 1 3 rfl (show(Qb f v)[3]?=some (.int .i64 f.day) from rfl);have y3:=H.out.c 0 3 rfl (show(Qb (Xd f.key f.stamp) Qx)[3]?=some (.int .i64 0) from rfl);have x4:=H.out.c 1 4 rfl (show(Qb f v)[4]?=some (.int .i64 f.kind) from rfl);have y4:=H.out.c 0 4 rfl (show(Qb (Xd f.key f.stamp) Qx)[4]?=some (.int .i64 0) from rfl);have x5:=H.out.c 1 5 rfl (show(Qb f v)[5]?=some (.string ⟨f.inst.toArray⟩) from rfl);have y5:=H.out.c 0 5 rfl (show(Qb (Xd f.key f.stamp) Qx)[5]?=some (.string ⟨#[]⟩) from rfl);have x6:=H.out.c 1 6 rfl (show(Qb f v)[6]?=some (.string ⟨f.other.toArray⟩) from rfl);have y6:=H.out.c 0 6 rfl (show(Qb (Xd f.key f.stamp) Qx)[6]?=some (.string ⟨#[]⟩) from rfl);have x7:=H.out.c 1 7 rfl (show(Qb f v)[7]?=some (.string ⟨f.cur.toArray⟩) from rfl);have y7:=H.out.c 0 7 rfl (show(Qb (Xd f.key f.stamp) Qx)[7]?=some (.string ⟨#[]⟩) from rfl);have x8:=H.out.c 1 8 rfl (show(Qb f v)[8]?=some (.string ⟨f.target.toArray⟩) from rfl);have y8:=H.out.c 0 8 rfl (show(Qb (Xd f.key f.stamp) Qx)[8]?=some (.string ⟨#[]⟩) from rfl);have x9:=H.out.c 1 9 rfl (show(Qb f v)[9]?=some (.string ⟨f.q.toArray⟩) from rfl);have y9:=H.out.c 0 9 rfl (show(Qb (Xd f.key f.stamp) Qx)[9]?=some (.string ⟨#[]⟩) from rfl);have x10:=H.out.c 1 10 rfl (show(Qb f v)[10]?=some (.string ⟨f.amount.toArray⟩) from rfl);have y10:=H.out.c 0 10 rfl (show(Qb (Xd f.key f.stamp) Qx)[10]?=some (.string ⟨#[]⟩) from rfl);have x11:=H.out.c 1 11 rfl (show(Qb f v)[11]?=some (.string ⟨f.fee.toArray⟩) from rfl);have y11:=H.out.c 0 11 rfl (show(Qb (Xd f.key f.stamp) Qx)[11]?=some (.string ⟨#[]⟩) from rfl);have x12:=H.out.c 1 12 rfl (show(Qb f v)[12]?=some (.string ⟨f.price.n.toArray⟩) from rfl);have y12:=H.out.c 0 12 rfl (show(Qb (Xd f.key f.stamp) Qx)[12]?=some (.string ⟨#[]⟩) from rfl);have x13:=H.out.c 1 13 rfl (show(Qb f v)[13]?=some (.string ⟨f.price.d.toArray⟩) from rfl);have y13:=H.out.c 0 13 rfl (show(Qb (Xd f.key f.stamp) Qx)[13]?=some (.string ⟨#[]⟩) from rfl);have x14:=H.out.c 1 14 rfl (show(Qb f v)[14]?=some (.string ⟨f.ratio.n.toArray⟩) from rfl);have y14:=H.out.c 0 14 rfl (show(Qb (Xd f.key f.stamp) Qx)[14]?=some (.string ⟨#[]⟩) from rfl);have x15:=H.out.c 1 15 rfl (show(Qb f v)[15]?=some (.string ⟨f.ratio.d.toArray⟩) from rfl);have y15:=H.out.c 0 15 rfl (show(Qb (Xd f.key f.stamp) Qx)[15]?=some (.string ⟨#[]⟩) from rfl);have x16:=H.out.c 1 16 rfl (show(Qb f v)[16]?=some (.string ⟨f.share.n.toArray⟩) from rfl);have y16:=H.out.c 0 16 rfl (show(Qb (Xd f.key f.stamp) Qx)[16]?=some (.string ⟨#[]⟩) from rfl);have x17:=H.out.c 1 17 rfl (show(Qb f v)[17]?=some (.string ⟨f.share.d.toArray⟩) from rfl);have y17:=H.out.c 0 17 rfl (show(Qb (Xd f.key f.stamp) Qx)[17]?=some (.string ⟨#[]⟩) from rfl);have x18:=H.out.c 1 18 rfl (show(Qb f v)[18]?=some (.slice v.pA v.pn v.pc) from rfl);have y18:=H.out.c 0 18 rfl (show(Qb (Xd f.key f.stamp) Qx)[18]?=some (.slice none 0 0) from rfl);have x19:=H.out.c 1 19 rfl (show(Qb f v)[19]?=some (.slice v.oA v.on v.oc) from rfl);have y19:=H.out.c 0 19 rfl (show(Qb (Xd f.key f.stamp) Qx)[19]?=some (.slice none 0 0) from rfl);have x20:=H.out.c 1 20 rfl (show(Qb f v)[20]?=some (.int .i64 f.choice) from rfl);have y20:=H.out.c 0 20 rfl (show(Qb (Xd f.key f.stamp) Qx)[20]?=some (.int .i64 0) from rfl);generalize Qb f v=fa at*;generalize Qb (Xd f.key f.stamp) Qx=fb at*;have HB:=jq H.out.bl;clear hp hn ho hpl hol H1 ep eo hc H;go_enter Tryz.func35,Tryz.ntmps35
 go_upto_region 1 with (fail)
 generalize (w.alloc (.cells fa 43)).alloc (.cells fb 43)=W at*
 go_wp2_with (first
  |(go_at_call 65;refine(HP.out _).mono ?_;rintro e w1 ⟨rfl,rfl⟩;cases bp)
  |(go_at_call 66;refine(HO.out _).mono ?_;rintro e w1 ⟨rfl,rfl⟩;cases bo))
 all_goals
  first|go_ret|skip
  refine⟨Qd ?_,HB.out⟩;simp[*]
end
section
def kZ:Array Value:=kB [] 0 (fun _=>false) (.map none) false
def KOk(W:World)(k:Int)(kb:Array Value):Prop:=match QE k with|some r=>∃word mv,kb=kB word r.cls r.has mv r.code/\LimM W mv r.nums|none=>kb=kZ
theorem LimM.row{W:World}{g:Nat}{mv:Value}{nums:List (Nat×Bool×Bool)}{old:Array Value}(h:LimM W mv nums)(hg:BlkB W g old 104)(c:Array Value):LimM (W.setRow g c) mv nums:=by
 rcases h with h|⟨b,n,e,h⟩
 ·exact .inl h
 ·exact .inr ⟨b,n,e,h.row hg c⟩
section
variable {W W':World} {k:Int} {kb:Array Value}
theorem KOk.here(h:KOk W k kb)(hb:Below W.1.size W W'):KOk W' k kb:=by
 unfold KOk at*
 split<;>rename_i e<;>rw[e] at h
 ·obtain⟨word,mv,e1,h⟩:=h;exact⟨word,mv,e1,h.here hb⟩
 ·exact h
theorem KOk.row{g:Nat}{old:Array Value}(h:KOk W k kb)(hg:BlkB W g old 104)(c:Array Value):KOk (W.setRow g c) k kb:=by
 unfold KOk at*
 split<;>rename_i e<;>rw[e] at h
 ·obtain⟨word,mv,e1,h⟩:=h;exact⟨word,mv,e1,h.row hg c⟩
 ·exact h
theorem KOk.size(h:KOk W k kb):kb.size=17:=by
 unfold KOk at h
 split at h
 ·obtain⟨word,mv,rfl,h⟩:=h;rfl
 ·subst h;rfl
theorem KOk.cell(h:KOk W k kb):kb.all (·.oneCell')=true:=by
 unfold KOk at h
 split at h
 ·obtain⟨word,mv,rfl,h⟩:=h
  refine VB _ _ _ _ _ ?_
  rcases h with ⟨rfl,_⟩|⟨b,n,rfl,_⟩<;>rfl
 ·subst h;exact VB _ _ _ _ _ rfl
theorem RowsB.look{bm:Nat}(h:RowsB W bm 18 JO)(hk:I64 k):∃kb,(Instr.lookup 106 (.map (some bm)) (.int .i64 k) true).run Tryz.prog W=.ok (.tuple #[.agg kb,.bool (QE k).isSome]) W/\KOk W k kb:=by
 obtain⟨m,hm,hr⟩:=h
 have e:=hm.lookOk (t:=106) (e:=104) (k:=k) Tryz.underlying106 (z:=.agg kZ) (by kernel_rfl) hk.1 hk.2;have h1:=hr k;have h2:=Zh7 k;rw[e]
 cases hf:JO.find? (fun x=>x.1==k) with
 |none=>
  rw[hf] at h1 h2;have h2':QE k=none:=h2.symm;simp only at h1
  refine⟨kZ,by rw[h1,h2'];rfl,?_⟩;unfold KOk;rw[h2']
 |some x=>
  rw[hf] at h1 h2;have h2':QE k=some x.2:=h2.symm;obtain⟨v,h3,word,mv,rfl,h4,h5⟩:=h1
  refine⟨_,by rw[h3,h2'];rfl,?_⟩;unfold KOk;rw[h2'];exact⟨word,mv,rfl,h4⟩
end
noncomputable def Zbn:Array Oper:=((Tryz.f46.body).bind (ZaI 11)).getD #[]
def Zcn(i:Nat):Option Nat:=match i with|0=>some 33|1=>some 34|2=>some 35|3=>some 36|4=>some 32|5=>some 37|6=>some 38|7=>some 3|9=>some 4|_=>none
def ckF(k:Int)(b0:Nat)(l:Array Bool)(sv:Nat->Value)(W:World)(i:Nat):Prop:=
 match i with
 |0=>∃bm,sv 33=.map (some bm)/\(l.getD 3 false=false->RowsB W bm 18 JO)
 |1=>sv 34=.pointer (some ⟨b0,4,none⟩)
 |2=>sv 35=.int .i64 k
 |3=>∃kb,sv 36=.tuple #[.agg kb,.bool (QE k).isSome]/\KOk W k kb
 |4=>∃kb,sv 32=.tuple #[.agg kb,.bool (QE k).isSome]/\KOk W k kb
 |5=>∃kb,sv 37=.agg kb/\KOk W k kb
 |6=>sv 38=.bool (QE k).isSome
 |7=>∃g cs,sv 3=.pointer (some ⟨g,0,none⟩)/\b0<g/\BlkB W g cs 104/\cs.size=17/\(l.getD 8 false=true->KOk W k cs)
 |8=>l.getD 7 false=true
 |9=>sv 4=.bool (QE k).isSome
 |_=>True
theorem ckF.keep{k:Int}{b0:Nat}{l l':Array Bool}{sv sv':Nat->Value}{W W':World}{i:Nat}(h:ckF k b0 l sv W i)(hs:∀s,Zcn i=some s->sv' s=sv s)(hb:Below W.1.size W W')(h3:l'.getD 3 false=false->l.getD 3 false=false)
 (h8:l'.getD 8 false=true->l.getD 8 false=true) (h7:l.getD 7 false=true->l'.getD 7 false=true):ckF k b0 l' sv' W' i:=by
 unfold ckF at*
 split at h
 ·obtain⟨bm,e,hr⟩:=h;exact⟨bm,(hs _ rfl).trans e,fun h=>(hr (h3 h)).here hb⟩
 ·exact(hs _ rfl).trans h
 ·exact(hs _ rfl).trans h
 ·obtain⟨kb,e,hr⟩:=h;exact⟨kb,(hs _ rfl).trans e,hr.here hb⟩
 ·obtain⟨kb,e,hr⟩:=h;exact⟨kb,(hs _ rfl).trans e,hr.here hb⟩
 ·obtain⟨kb,e,hr⟩:=h;exact⟨kb,(hs _ rfl).trans e,hr.here hb⟩
 ·exact(hs _ rfl).trans h
 ·obtain⟨g,cs,e,h1,h2,h4,h5⟩:=h;exact⟨g,cs,(hs _ rfl).trans e,h1,h2.here hb,h4,fun h=>(h5 (h8 h)).here hb⟩
 ·exact h7 h
 ·exact(hs _ rfl).trans h
 ·trivial
structure CkI (w:World) (k:Int) (fb:Array Value) (l:Array Bool) (a:Act) (W:World):Prop where
 sz:l.size=10
 ts:a.tmps.size=60
 df:a.defers=[]
 kp:Kp w [(w.1.size,fb,43)] W
 s1:QN a 1=.pointer (some ⟨w.1.size,0,none⟩)
 f:∀i,i<10->l.getD i false=true->ckF k w.1.size l (QN a) W i
theorem Zko(i j s:Nat)(h:i≠j)(hs:Zcn j=some s):Zcn i≠some s:=by
 unfold Zcn at*
 intro h2
 split at hs<;>split at h2<;>first|(simp_all;done)|(simp_all;omega)
theorem Zkp(a:Act)(t:Option Nat)(v:Value):(a.put t v).tmps.size=a.tmps.size:=by
 unfold Act.put
 cases t<;>simp
theorem Zkq(a:Act)(t:Option Nat)(v:Value):(a.put t v).defers=a.defers:=by
 unfold Act.put
 cases t<;>rfl
theorem CkI.next{w:World}{k:Int}{fb:Array Value}{l:Array Bool}{a:Act}{W W':World}(h:CkI w k fb l a W)(i:Nat)(hi:i<10)(h8:i≠8)(v:Value)(hb:Below W.1.size W W')
 (hf:ckF k w.1.size (l.setIfInBounds i true) (QN (a.put (Zcn i) v)) W' i):CkI w k fb (l.setIfInBounds i true) (a.put (Zcn i) v) W':=by
 have hil:i<l.size:=by rw[h.sz];exact hi
 refine⟨by simp[h.sz],by rw[Zkp];exact h.ts,by rw[Zkq];exact h.df,h.kp.here hb,(XI ?_).trans h.s1,fun j hj hl=> ?_⟩
 ·unfold Zcn
  split<;>simp
 ·by_cases e:j=i
  ·subst e;exact hf
  ·rw[QL e] at hl;refine(h.f j hj hl).keep (fun s hs=>XI (Zko i j s (fun e2=>e e2.symm) hs)) hb (fun h3=> ?_) (fun h3=> ?_) (fun h3=> ?_)
   ·by_cases e3:i=3
    ·subst e3;rw[YV hil] at h3;cases h3
    ·rwa [QL (fun e2=>e3 e2.symm)] at h3
   ·rwa [QL (fun e2=>h8 e2.symm)] at h3
   ·by_cases e3:i=7
    ·subst e3;exact YV hil
    ·rwa [QL (fun e2=>e3 e2.symm)]
theorem CkI.store{w:World}{k:Int}{fb:Array Value}{l:Array Bool}{a:Act}{W:World}(h:CkI w k fb l a W)(h3:l.getD 3 false=true)(h7:l.getD 7 false=true){g:Nat}{kb cs:Array Value}(hk:KOk W k kb)(hg:BlkB W g cs 104)(hs:QN a 3=.pointer (some ⟨g,0,none⟩))(hgw:w.1.size<g)(v:Value):
 CkI w k fb (l.setIfInBounds 8 true) (a.put none v) (W.setRow g kb):=by
 have hp:∀s,QN (a.put none v) s=QN a s:=fun s=>XI (by simp)
 refine⟨by simp[h.sz],by rw[Zkp];exact h.ts,by rw[Zkq];exact h.df,?_,(hp 1).trans h.s1,fun j hj hl=> ?_⟩
 ·refine⟨h.kp.pow,h.kp.bl.trans (Zc5 W (by omega) kb),h.kp.own,h.kp.ord,fun b hb=> ?_⟩;have:=h.kp.blk b hb
  simp only[List.mem_singleton] at hb;subst hb;exact(Xl W g kb (by show w.1.size≠g;omega)).trans this
 ·have e3:(l.setIfInBounds 8 true).getD 3 false=true:=by rw[QL (by omega)];exact h3
  by_cases e:j=8
  ·subst e;show(l.setIfInBounds 8 true).getD 7 false=true;rw[QL (by omega)];exact h7
  ·rw[QL e] at hl;have hf:=h.f j hj hl;unfold ckF at*
   split at hf
   ·obtain⟨bm,e,hr⟩:=hf;exact⟨bm,(hp _).trans e,fun h=>by rw[e3] at h;cases h⟩
   ·exact(hp _).trans hf
   ·exact(hp _).trans hf
   ·obtain⟨kb,e,hr⟩:=hf;exact⟨kb,(hp _).trans e,hr.row hg _⟩
   ·obtain⟨kb,e,hr⟩:=hf;exact⟨kb,(hp _).trans e,hr.row hg _⟩
   ·obtain⟨kb,e,hr⟩:=hf;exact⟨kb,(hp _).trans e,hr.row hg _⟩
   ·exact(hp _).trans hf
   ·exact⟨g,kb,(hp _).trans hs,hgw,JL kb hg,hk.size,fun _=>hk.row hg _⟩
   ·exact absurd rfl e
   ·exact(hp _).trans hf
   ·trivial
end
section
attribute [local go_sem] Oper.semAt_some
def Zhn(o:Oper):Option Nat×Op×List Nat:=(o.dst,o.op,(o.after.toList.filter (fun e=>Region.binds .any e)).map (·.on))
def ZdC:List (Option Nat×Op×List Nat):=[
 (some 33,.call {callee:=.value (.func 72),args:=#[],argTypes:=#[]},[]),
 (some 34,.fieldAddr 43 (.tmp 1) 4,[]),
 (some 35,.load 3 (.tmp 34),[1]),
 (some 36,.lookup 106 (.tmp 33) (.tmp 35) true,[0,2]),
 (some 32,.move (.tmp 36),[3]),
 (some 37,.extract (.tmp 32) 0,[4]),
 (some 38,.extract (.tmp 32) 1,[4]),
 (some 3,.alloc 104,[]),
 (none,.store 104 (.tmp 3) (.tmp 37),[7,5,0,0,1,2,3,4,5,7]),
 (some 4,.assign (.tmp 38),[6,8,0,1,2,3,4,5,6,7,8])]
theorem Znd:Zbn.toList.map Zhn=ZdC:=by kernel_rfl
theorem Zkv:(Zbn.toList.all fun o=>o.guard.isNone)=true:=by kernel_rfl
theorem ZbM:Zbn.size=10:=by kernel_rfl
theorem ZmN{i:Nat}{o:Oper}(ho:Zbn[i]?=some o):ZdC[i]?=some (Zhn o):=by
 rw[<-Znd,List.getElem?_map,Array.getElem?_toList,ho];rfl
theorem Zl4(i:Nat)(o:Oper)(ho:Zbn[i]?=some o):o.guard=none:=by
 have h:=List.all_eq_true.1 Zkv o (by rw[Array.mem_toList_iff];exact Array.mem_of_getElem? ho);simpa using h
theorem Zl5(i:Nat)(o:Oper)(ho:Zbn[i]?=some o)(e:Edge)(he:e∈o.after)(hb:Region.binds .any e=true):e.on<i:=by
 have h:=ZmN ho;have hm:e.on∈(Zhn o).2.2:=List.mem_map.2 ⟨e,List.mem_filter.2 ⟨by rw[Array.mem_toList_iff];exact he,hb⟩,rfl⟩
 have hall:∀(j:Nat) (r:Option Nat×Op×List Nat),ZdC[j]?=some r->∀n∈r.2.2,n<j:=by
  intro j r hj n hn
  match j,hj with
  |0,hj|1,hj|2,hj|3,hj|4,hj|5,hj|6,hj|7,hj|8,hj|9,hj=>
   simp only[ZdC,List.getElem?_cons_zero,List.getElem?_cons_succ,Option.some.injEq] at hj;subst hj;simp at hn<;>omega
  |j+10,hj=>simp[ZdC] at hj
 exact hall i _ h _ hm
section
variable {o:Oper} {a:Act} {w w':World} {K:Act->World->Prop} {Q:Exit->Act->World->Prop}
theorem Zba{v:Value}(h:(execOp a.eval o).run Tryz.prog w=.ok (.value v) w')(hk:K (a.put o.dst v) w'):o.wp Tryz.prog a w K Q:=by
 unfold Oper.wp;rw[h];exact hk
end
theorem ZbN{a:Act}{s:Nat}{v:Value}(h:QN a s=v):a.tmps[s]?.getD undef=v:=by
 rw[<-Array.getD_eq_getD_getElem?];exact h
theorem Zl6{w:World}{k:Int}{fb:Array Value}{l:Array Bool}{a:Act}{W:World}{Q:Exit->Act->World->Prop}(h:CkI w k fb l a W)(hk:I64 k)(hfb:fb[4]?=some (.int .i64 k))(i:Nat)(o:Oper)(ho:Zbn[i]?=some o)(hl:l.getD i true=false)
 (hdep:∀e∈o.after,Region.binds .any e=true->l.getD e.on false=true):o.wp Tryz.prog a W (fun a' W'=>CkI w k fb (l.setIfInBounds i true) a' W') Q:=by
 have hdp:∀n∈(Zhn o).2.2,l.getD n false=true:=by
  intro n hn;obtain⟨e,he,rfl⟩:=List.mem_map.1 hn
  obtain⟨h1,h2⟩:=List.mem_filter.1 he
  exact hdep e (by rw[Array.mem_toList_iff] at h1;exact h1) h2
 have hr:=ZmN ho;have hil:i<10:=by rw[<-ZbM];exact(Array.getElem?_eq_some_iff.1 ho).1
 have hts:=h.ts;clear hdep ho;unfold ZdC at hr;have hc:i=0\/i=1\/i=2\/i=3\/i=4\/i=5\/i=6\/i=7\/i=8\/i=9:=by omega
 rcases hc with rfl|rfl|rfl|rfl|rfl|rfl|rfl|rfl|rfl|rfl
 all_goals
  simp only[List.getElem?_cons_zero,List.getElem?_cons_succ,Option.some.injEq] at hr;have e1:o.dst=_:=(congrArg (·.1) hr).symm;have e2:o.op=_:=(congrArg (·.2.1) hr).symm;have e3:=congrArg (·.2.2) hr;simp only at e1 e2 e3
  rw[<-e3] at hdp;clear hr e3
 ·refine VJ (f:=72) (args:=#[]) e2 (fun W=> ?_) (Zdv W h.kp.pw) ?_
  ·have en:∀args w,(callFunc 72 args).run Tryz.prog w=.ok (.enter 72 args) w:=enters_of Tryz.func72 (by kernel_rfl) rfl;simp[resolve,invoke,Zdt,Deferred.ofValue,en]
  ·rintro e w' ⟨bm,rfl,hb,hbl⟩;refine⟨_,rfl,?_⟩;rw[e1];exact h.next 0 (by omega) (by omega) _ hbl ⟨bm,QI (by omega),fun _=>hb⟩
 ·refine Zba (v:=.pointer (some ⟨w.1.size,4,none⟩)) (w':=W) ?_ ?_
  ·unfold execOp;rw[e2];have h1:=ZbN h.s1;simp[h1,go_sem]
  ·rw[e1];exact h.next 1 (by omega) (by omega) _ (Below.refl _ _) (QI (by omega))
 ·refine Zba (v:=.int .i64 k) (w':=W) ?_ ?_
  ·unfold execOp;rw[e2];have h1:QN a 34=.pointer (some ⟨w.1.size,4,none⟩):=h.f 1 (by omega) (hdp 1 (by simp));have h2:=h.kp.c 0 4 rfl hfb;have h1':=ZbN h1;simp[h1',go_sem,h2]
  ·rw[e1];exact h.next 2 (by omega) (by omega) _ (Below.refl _ _) (QI (by omega))
 ·obtain⟨bm,h1,h2⟩:=h.f 0 (by omega) (hdp 0 (by simp))
  have h3:QN a 35=.int .i64 k:=h.f 2 (by omega) (hdp 2 (by simp))
  have hl3:l.getD 3 false=false:=by
   rw[Array.getD_eq_getD_getElem?,Array.getElem?_eq_getElem (by have:=h.sz;omega)] at hl ⊢;simpa using hl
  obtain⟨kb,h4,h5⟩:=(h2 hl3).look hk
  refine Zba (v:=.tuple #[.agg kb,.bool (QE k).isSome]) (w':=W) ?_ ?_
  ·unfold execOp;rw[e2];unfold QN at h1 h3;simp[h1,h3,h4,Result.andThen]
  ·rw[e1];exact h.next 3 (by omega) (by omega) _ (Below.refl _ _) ⟨kb,QI (by omega),h5⟩
 ·obtain⟨kb,h1,h2⟩:=h.f 3 (by omega) (hdp 3 (by simp))
  refine Ze3 (s:=36) (.inl e2) ?_;rw[e1,h1];exact h.next 4 (by omega) (by omega) _ (Below.refl _ _) ⟨kb,QI (by omega),h2⟩
 ·obtain⟨kb,h1,h2⟩:=h.f 4 (by omega) (hdp 4 (by simp))
  refine Zba (v:=.agg kb) (w':=W) ?_ ?_
  ·unfold execOp;rw[e2];have h1':=ZbN h1;simp[h1',go_sem]
  ·rw[e1];exact h.next 5 (by omega) (by omega) _ (Below.refl _ _) ⟨kb,QI (by omega),h2⟩
 ·obtain⟨kb,h1,h2⟩:=h.f 4 (by omega) (hdp 4 (by simp))
  refine Zba (v:=.bool (QE k).isSome) (w':=W) ?_ ?_
  ·unfold execOp;rw[e2];have h1':=ZbN h1;simp[h1',go_sem]
  ·rw[e1];exact h.next 6 (by omega) (by omega) _ (Below.refl _ _) (QI (by omega))
 ·refine Zba (v:=.pointer (some ⟨W.1.size,0,none⟩)) (w':=W.alloc (.cells kZ 104)) ?_ ?_
  ·unfold execOp;rw[e2];simp[go_sem]
   rfl
  ·rw[e1];refine h.next 7 (by omega) (by omega) _ ((Below.refl _ _).alloc (Nat.le_refl _) _) ⟨W.1.size,kZ,QI (by omega),h.kp.lt 0 rfl,heap_alloc_new W _,rfl,fun h8=> ?_⟩
   exfalso
   rw[QL (by omega)] at h8;have h7:l.getD 7 false=true:=h.f 8 (by omega) h8;rw[Array.getD_eq_getD_getElem?,Array.getElem?_eq_getElem (by have:=h.sz;omega)] at hl h7;simp at hl h7;rw[hl] at h7
   cases h7
 ·obtain⟨g,cs,h1,h2,h3,h4,h5⟩:=h.f 7 (by omega) (hdp 7 (by simp))
  obtain⟨kb,h6,h7⟩:=h.f 5 (by omega) (hdp 5 (by simp))
  have hst:=VC (w:=W) h3 h4 h7.size h7.cell;unfold stK at hst;unfold Oper.wp;unfold QN at h1 h6;simp[execOp,e2,h1,h6,hst,Result.andThen]
  show CkI w k fb (l.setIfInBounds 8 true) (a.put o.dst undef) (W.setRow g kb)
  rw[e1];exact h.store (hdp 3 (by simp)) (hdp 7 (by simp)) h7 h3 h1 h2 undef
 ·have h1:QN a 38=.bool (QE k).isSome:=h.f 6 (by omega) (hdp 6 (by simp));refine Ze3 (s:=38) (.inr e2) ?_;rw[e1,h1];exact h.next 9 (by omega) (by omega) _ (Below.refl _ _) (QI (by omega))
theorem Zgg(l:List Value):l=(List.range l.length).map (fun i=>l[i]?.getD undef):=by
 refine List.ext_getElem? fun i=> ?_
 rw[List.getElem?_map]
 rcases Nat.lt_or_ge i l.length with h|h
 ·rw[List.getElem?_range h,List.getElem?_eq_getElem h];simp[h]
 ·rw[List.getElem?_eq_none h,List.getElem?_eq_none (by simpa using h)];rfl
theorem Zne(l:List Value)(h:l.length=60):∃f:Nat->Value,l=[f 0,f 1,f 2,f 3,f 4,f 5,f 6,f 7,f 8,f 9,f 10,f 11,f 12,f 13,f 14,f 15,f 16,f 17,f 18,f 19,f 20,f 21,f 22,f 23,f 24,f 25,f 26,f 27,f 28,f 29,f 30,f 31,f 32,f 33,f 34,f 35,f 36,f 37,f 38,f 39,f 40,f 41,f 42,f 43,f 44,f 45,f 46,f 47,f 48,f 49,f 50,f 51,f 52,f 53,f 54,f 55,f 56,f 57,f 58,f 59]/\∀i,f i=l[i]?.getD undef:=by
 have e:=Zgg l;rw[h] at e;exact⟨fun i=>l[i]?.getD undef,e,fun _=>rfl⟩
theorem CkI.done{w:World}{k:Int}{fb:Array Value}{l:Array Bool}{a:Act}{W:World}(h:CkI w k fb l a W)(hall:∀i,i<10->l.getD i false=true):
 ∃(f:Nat->Value) (g:Nat) (kb:Array Value),a=⟨[f 0,f 1,f 2,f 3,f 4,f 5,f 6,f 7,f 8,f 9,f 10,f 11,f 12,f 13,f 14,f 15,f 16,f 17,f 18,f 19,f 20,f 21,f 22,f 23,f 24,f 25,f 26,f 27,f 28,f 29,f 30,f 31,f 32,f 33,f 34,f 35,f 36,f 37,f 38,f 39,f 40,f 41,f 42,f 43,f 44,f 45,f 46,f 47,f 48,f 49,f 50,f 51,f 52,f 53,f 54,f 55,f 56,f 57,f 58,f 59].toArray,[]⟩/\f 1=.pointer (some ⟨w.1.size,0,none⟩)/\f 3=.pointer (some ⟨g,0,none⟩)/\f 4=.bool (QE k).isSome/\KOk W k kb/\Kp w [(g,kb,104),(w.1.size,fb,43)] W:=by
 obtain⟨g,cs,h1,h2,h3,h4,h5⟩:=h.f 7 (by omega) (hall 7 (by omega))
 have h6:QN a 4=.bool (QE k).isSome:=h.f 9 (by omega) (hall 9 (by omega));have ht:=h.ts;have hd:=h.df;have hs:=h.s1;obtain⟨⟨ts⟩,df⟩:=a
 simp only at hd ht
 subst hd;obtain⟨f,e,hf⟩:=Zne ts (by simpa using ht)
 have hsv:∀i,f i=QN ⟨⟨ts⟩,[]⟩ i:=fun i=>by
  rw[hf i]
  show _=(⟨ts⟩:Array Value).getD i undef
  rw[Array.getD_eq_getD_getElem?];simp
 refine⟨f,g,cs,?_,(hsv 1).trans hs,(hsv 3).trans h1,(hsv 4).trans h6,h5 (hall 8 (by omega)),?_⟩
 ·rw[<-e]
 ·refine⟨h.kp.pow,h.kp.bl,fun b hb=> ?_,?_,fun b hb=> ?_⟩
  ·rcases List.mem_cons.1 hb with rfl|hb
   ·exact Nat.le_of_lt h2
   ·exact h.kp.own b hb
  ·refine .cons (fun b hb=> ?_) h.kp.ord;simp only[List.map_cons,List.map_nil,List.mem_singleton] at hb;subst hb;exact fun e=>by simp only at e;omega
  ·rcases List.mem_cons.1 hb with rfl|hb
   ·exact h3
   ·exact h.kp.blk b hb
end
section
attribute [local go_sem] Oper.semAt_some
attribute [local go_sem ↓] Go.wp_at_zero Go.wp_at_succ Ql VV
theorem Zkx{k:Int}{r:KRow}(h:QE k=some r)(i:Nat)(h1:4<=i)(h2:i<=9)(hi:r.has i=true):∃y,r.nums.find? (fun x=>x.1==i)=some y:=by
 have hc:i=4\/i=5\/i=6\/i=7\/i=8\/i=9:=by omega
 unfold QE at h
 split at h<;>first|cases h;done|(injection h with h;subst h;rcases hc with rfl|rfl|rfl|rfl|rfl|rfl<;>first|exact⟨_,rfl⟩|exact absurd hi (by decide))
theorem Zih(f:Fct)(v:FaV)(r:KRow)(k:Int)(hr:QE k=some r)(word:List UInt8)(mv:Value)(i:Nat)(hi:i<=12)(hh:r.has i=true)(w:World)(hp:Env w)(hf:f.Sz 1000)(hl:LimM w mv r.nums)(hm:FaM w w.1.size f v)(hpn:v.pn<=100000)(hon:v.on<=100000):
 Calls Tryz.prog 73 #[.agg (Qb f v),.agg (kB word r.cls r.has mv r.code),.int .i64 (i:Int)] w fun e w'=>e=.returned (.int .i64 (Qy f r i))/\Below w.1.size w w':=by
 by_cases h:4<=i/\i<=9
 ·obtain⟨y,hy⟩:=Zkx hr i h.1 h.2 hh
  exact Zic f v r word mv i h.1 h.2 y hy w hp hf hl
 ·exact Ze8 f v r word mv i hi (by omega) w hp hf hm hpn hon
theorem Zii(f:Fct)(r:KRow)(i:Nat)(hi:i<13):YA f r i (13-i)=if r.has i=true then(if Qy f r i≠0 then Qy f r i else YA f r (i+1) (13-(i+1))) else if f.none i=false then 1 else YA f r (i+1) (13-(i+1)):=by
 have e:13-i=(13-(i+1))+1:=by omega
 rw[e];rfl
theorem Zgh(f:Fct)(v:FaV)(w:World)(hp:Env w)(hf:f.Sz 1000)(hm:FaM w w.1.size f v)(hpn:v.pn<=100000)(hon:v.on<=100000):
 Calls Tryz.prog 46 #[.agg (Qb f v)] w fun e w'=>e=.returned (.int .i64 (Qt f))/\Below w.1.size w w':=by
 have H:=jq ((Kp.start hp).new w.1.size rfl (Qb f v) 43);have hl:=Qj (H.out.at_ 0 rfl) (Qg f v);have HN:=jq (ZaF f.key);have HS:=jq (fun(hc:f.cancelled=true) (W:World) (hp:Env W)=>Zkn f v hc W hp hpn hon hm.pk.1 hm.op.1)
 have HFD:=jq (fun(r:KRow) (hr:QE f.kind=some r) (word:List UInt8) (mv:Value) (i:Nat) (hi:i<=12) (hh:r.has i=true) (W:World) (hb:Below w.1.size w W) (hl:LimM W mv r.nums)=>
  Zih f v r f.kind hr word mv i hi hh W (hp.here hb) hf hl (hm.here hb) hpn hon)
 have HEM:=jq (fun(i:Nat) (hi:i<=12) (W:World) (hb:Below w.1.size w W)=>Zig f v i hi W (hp.here hb) (hm.here hb) hpn hon);have HST:=jq (fun r i hi=>Zii f r i hi)
 have HE:=jq (show Qt f=if Qr f.key=false then 23 else if f.stamp<0 then 2
  else if f.cancelled=true then(if f=Xd f.key f.stamp then 0 else 1)
  else if f.day< -25567\/84005<f.day then 13
  else match QE f.kind with
   |none=>7
   |some r=>YA f r 0 13 from rfl)
 have x0:=H.out.c 0 0 rfl (show(Qb f v)[0]?=some (.string ⟨f.key.toArray⟩) from rfl);have x1:=H.out.c 0 1 rfl (show(Qb f v)[1]?=some (.int .i64 f.stamp) from rfl);have x2:=H.out.c 0 2 rfl (show(Qb f v)[2]?=some (.bool f.cancelled) from rfl);have x3:=H.out.c 0 3 rfl (show(Qb f v)[3]?=some (.int .i64 f.day) from rfl);have HK:=jq (show(Qb f v)[4]?=some (.int .i64 f.kind) from rfl);have HZ:=jq (Qg f v);have HKI:=jq hf.kind;have HC0:=jq (show(Qb f v)[0]?=some (.string ⟨f.key.toArray⟩) from rfl);have HC1:=jq (show(Qb f v)[1]?=some (.int .i64 f.stamp) from rfl);have HC2:=jq (show(Qb f v)[2]?=some (.bool f.cancelled) from rfl);have HC3:=jq (show(Qb f v)[3]?=some (.int .i64 f.day) from rfl);generalize Qt f=res at*;generalize Qb f v=fb at*;generalize hsb:decide (f=Xd f.key f.stamp)=sb at HS;have HSB:=jq hsb;clear hsb;simp only[Qb,Xd,Qx] at HS;clear hp hf hm hpn hon;unfold S at*
 cases hnb:Qr f.key with
 |false=>
  rw[if_pos hnb] at HE;rw[hnb] at HN;clear hnb;go_enter Tryz.func46,Tryz.ntmps46
  go_wp2_with fail
  refine(HN.out _ H.out.pw).mono ?_;rintro e w1 ⟨rfl,hb1⟩;go_wp2_with fail
  first|go_ret|skip
  exact⟨Qa HE.out.symm,(H.out.here hb1).bl⟩
 |true=>
 rw[if_neg (by rw[hnb];decide)] at HE;rw[hnb] at HN;clear hnb;go_enter Tryz.func46,Tryz.ntmps46
 go_wp2_with fail
 refine(HN.out _ H.out.pw).mono ?_;rintro e w1 ⟨rfl,hb1⟩;have H1:=jq (H.out.here hb1);clear x0 x1 x2 x3 hl;have hl:=Qj (H1.out.at_ 0 rfl) HZ.out;clear H HN;have HY:=jq (fun W (hb:Below w1.1.size w1 W)=>(H1.out.here hb).bl)
 by_cases hs:f.stamp<0
 ·rw[if_pos hs] at HE;have y1:=H1.out.c 0 1 rfl HC1.out;go_wp2_with fail
  first|go_ret|skip
  exact⟨Qa HE.out.symm,H1.out.bl⟩
 rw[if_neg hs] at HE;have y0:=H1.out.c 0 0 rfl HC0.out;have y1:=H1.out.c 0 1 rfl HC1.out;have y2:=H1.out.c 0 2 rfl HC2.out;have y3:=H1.out.c 0 3 rfl HC3.out
 cases hcn:f.cancelled with
 |true=>
  rw[if_pos hcn] at HE;have HS2:=jq (HS.out hcn w1 H1.out.pw);rw[hcn] at y2;clear hcn HS
  by_cases hv:f=Xd f.key f.stamp
  ·rw[if_pos hv] at HE;have hsb:sb=true:=by rw[<-HSB.out];exact decide_eq_true hv
   subst hsb;clear hv;go_wp2_with (go_at_call 35;refine(HS2.out).mono ?_;rintro e w2 ⟨rfl,hb2⟩)
   first|go_ret|skip
   exact⟨Qa HE.out.symm,HY.out _ hb2⟩
  ·rw[if_neg hv] at HE;have hsb:sb=false:=by rw[<-HSB.out];exact decide_eq_false hv
   subst hsb;clear hv;go_wp2_with (go_at_call 35;refine(HS2.out).mono ?_;rintro e w2 ⟨rfl,hb2⟩)
   first|go_ret|skip
   exact⟨Qa HE.out.symm,HY.out _ hb2⟩
 |false=>
 rw[if_neg (by rw[hcn];decide)] at HE;rw[hcn] at y2;clear hcn HS
 by_cases d1:f.day< -25567
 ·rw[if_pos (.inl d1)] at HE;go_wp2_with fail
  first|go_ret|skip
  exact⟨Qa HE.out.symm,H1.out.bl⟩
 by_cases d2:84005<f.day
 ·rw[if_pos (.inr d2)] at HE;go_wp2_with fail
  first|go_ret|skip
  exact⟨Qa HE.out.symm,H1.out.bl⟩
 rw[if_neg (by omega)] at HE;go_upto_region 11 with (fail)
 refine Zcm (ops:=Zbn) (by kernel_rfl) (fun l a W=>CkI w f.kind fb l a W) Zl5 Zl4 (fun l a W h=>by rw[h.sz,ZbM]) (fun l a W h i o ho hl hd=>Zl6 h HKI.out HK.out i o ho hl hd) (fun l a W h hall=> ?_) ⟨by simp[ZbM],rfl,rfl,H1.out.drew,rfl,fun i hi h=> ?_⟩
 case refine_2=>
  exfalso
  rw[Array.getD_eq_getD_getElem?,Array.getElem?_replicate] at h
  split at h<;>simp at h
 obtain⟨F,g,kb,rfl,e1,e3,e4,hk,hkp⟩:=h.done (fun i hi=>hall i (by rw[ZbM];exact hi))
 rw[e1,e3,e4];clear hl y0 y1 y2 y3 hall h e1 e3 e4 H1 HY hs d1 d2
 cases hr:QE f.kind with
 |none=>
  rw[hr] at HE;clear hr hk;go_wp2_with fail
  first|go_ret|skip
  exact⟨Qa HE.out.symm,hkp.bl⟩
 |some r=>
 rw[hr] at HE;have HFR:=jq (HFD.out r hr);unfold KOk at hk;rw[hr] at hk;obtain⟨word,mv,rfl,hl⟩:=hk
 have HKP:=jq hkp;have HLM:=jq hl;clear hr hl hkp HFD;go_wp2_with fail
 go_loopw [2,5,6,41] (fun _ _ _ i W=>∃j:Nat,j<=13/\i=.int .i64 j/\Hid (Kp w [(g,kB word r.cls r.has mv r.code,104),(w.1.size,fb,43)] W)/\Hid (LimM W mv r.nums)/\Hid (res=YA f r j (13-j))) (fun _ _ _ i _=>13-(intOf i).toNat)
 case atStart=>exact⟨0,by omega,rfl,HKP.out,HLM.out,HE.out⟩
 case round=>
  obtain⟨j,hj,rfl,HA,HL,HQ⟩:=hrel
  by_cases hlt:j<13
  ·have hq:=HQ.out;rw[HST.out r j hlt] at hq;have hcell:=HA.out.c 0 (2+j) rfl (ZdO word r.cls r.has mv r.code j (by omega))
   cases hh:r.has j with
   |true=>
    rw[if_pos hh] at hq;rw[hh] at hcell;have HQ2:=jq hq;have HCL:=jq (HFR.out word mv j (by omega) hh);clear hq hh HQ;have l1:=ZbB (HA.out.at_ 0 rfl) (Zlo word r.cls r.has mv r.code);have l2:=Qj (HA.out.at_ 1 rfl) HZ.out
    by_cases h0:Qy f r j=0
    ·rw[if_neg (by simpa using h0)] at HQ2;rw[h0] at HCL;clear h0;go_wp2_with (go_at_call 73;refine(HCL.out _ HA.out.bl HL.out).mono ?_;rintro e w3 ⟨rfl,hb3⟩)
     go_roundw
     case rel=>exact⟨j+1,by omega,by go_num,HA.out.here hb3,HL.out.here hb3,HQ2.out⟩
     case measure=>simp[intOf];omega
    ·rw[if_pos (by simpa using h0)] at HQ2;generalize Qy f r j=z at*;have h0':(z==0)=false:=beq_false_of_ne h0;go_wp2_with (go_at_call 73;refine(HCL.out _ HA.out.bl HL.out).mono ?_;rintro e w3 ⟨rfl,hb3⟩)
     go_ret
     exact⟨Qa HQ2.out.symm,(HA.out.here hb3).bl⟩
   |false=>
    rw[if_neg (by rw[hh];decide)] at hq;rw[hh] at hcell;have HQ2:=jq hq;have HCE:=jq (HEM.out j (by omega));clear hq hh HQ;have l2:=Qj (HA.out.at_ 1 rfl) HZ.out
    cases hn:f.none j with
    |false=>
     rw[if_pos hn] at HQ2;rw[hn] at HCE;clear hn;go_wp2_with (go_at_call 74;refine(HCE.out _ HA.out.bl).mono ?_;rintro e w3 ⟨rfl,hb3⟩)
     go_ret
     exact⟨Qa HQ2.out.symm,(HA.out.here hb3).bl⟩
    |true=>
     rw[if_neg (by rw[hn];decide)] at HQ2;rw[hn] at HCE;clear hn;go_wp2_with (go_at_call 74;refine(HCE.out _ HA.out.bl).mono ?_;rintro e w3 ⟨rfl,hb3⟩)
     go_roundw
     case rel=>exact⟨j+1,by omega,by go_num,HA.out.here hb3,HL.out.here hb3,HQ2.out⟩
     case measure=>simp[intOf];omega
  ·have ej:j=13:=by omega
   subst ej;go_wp2_with fail
   first|go_ret|skip
   exact⟨Qa HQ.out.symm,HA.out.bl⟩
end
end Go.Proofs.YtmfjmngebldanaaGreatDoor
