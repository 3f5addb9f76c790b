/- Rq2, Rq3, Mv2, Id. -/
import Derived.Test.YtpnncoinlopndaaGreatDoorQGSm20
import Derived.Laws.Tables
set_option maxRecDepth 20000
set_option maxHeartbeats 2000000
namespace Go.Proofs.YtpnncoinlopndaaGreatDoor
open Go.Lib renaming hid→hdz
section
open Go.RowKit Go.Shelf
attribute [local go_sem ↓] Go.wp_at_zero Go.wp_at_succ
theorem Zj7(n:Int)(hn:n≠0):∃l b,txtL n=l++[b]∧48≤b.toNat∧b.toNat≤57∧b.toNat%2=n.natAbs%2:=by
 rw[Zbh,ZaN n.natAbs (by omega)]
 refine⟨(if n<0 then[45] else[])++digs (n.natAbs/10),UInt8.ofNat (48+n.natAbs%10),by simp,?_⟩
 have h:(UInt8.ofNat (48+n.natAbs%10)).toNat=48+n.natAbs%10:=by
  rw[UInt8.toNat_ofNat']
  omega
 rw[h]
 omega
theorem ZnW(n:Int):decide (n.fmod 2=0)=decide (n.natAbs%2=0):=by
 rw[Bool.eq_iff_iff,decide_eq_true_eq,decide_eq_true_eq]
 have h1:=Int.mul_fdiv_add_fmod n 2
 have h2:=Int.fmod_nonneg_of_pos n (show(0:Int)<2 by omega)
 have h3:=Int.fmod_lt_of_pos n (show(0:Int)<2 by omega)
 omega
theorem ZiJ(a:List UInt8)(w:World)(ha:a.length≤1000000000):Calls Tryz.prog 211 #[S a] w fun e w'=>e=.returned (.bool (decide ((val a).fmod 2=0)))∧w=w':=by
 have HC:=hdz (fun W=>Za3 a W ha)
 have hl:(txtL (val a)).length≤1000000001:=by
  have:=Zab (n:=val a) (L:=a.length) (Zai (Nat.le_refl _))
  omega
 rw[ZnW]
 clear ha
 by_cases h0:val a=0
 ·rw[h0] at HC ⊢
  rw[show txtL 0=[] from rfl] at HC
  clear h0 hl
  unfold S at*
  go_enter Tryz.func211,Tryz.ntmps211
  go_wp2_with fail
  refine(HC.out _).mono ?_
  rintro e w1 ⟨rfl,rfl⟩
  go_wp2_with fail
  first|go_ret|skip
  exact⟨rfl,rfl⟩
 ·obtain⟨l,b,hb,h1,h2,h3⟩:=Zj7 _ h0
  rw[hb] at HC hl
  have hk:(l++[b])[l.length]?=some b:=by simp
  have hln:(l++[b]).length=l.length+1:=by simp
  have hsz:(⟨(l++[b]).toArray⟩:ByteArray).size=l.length+1:=by rw[Zag,hln]
  have hks:l.length<(⟨(l++[b]).toArray⟩:ByteArray).size:=by omega
  have hbk:(⟨(l++[b]).toArray⟩:ByteArray)[l.length]=b:=Zeu hk hks
  have hne:((l++[b])==[])=false:=by simp
  have hem:(l++[b]).isEmpty=false:=by simp
  rw[←h3]
  clear h0 h3 hk
  rw[hln] at hl
  generalize l++[b]=t at*
  generalize l.length=k at*
  unfold S at*
  by_cases hp:b.toNat%2=0
  ·have hpar:((b.toNat:Int)-48)%2=0:=by omega
   rw[decide_eq_true hp]
   clear hp hln
   go_enter Tryz.func211,Tryz.ntmps211
   go_wp2_with fail
   refine(HC.out _).mono ?_
   rintro e w1 ⟨rfl,rfl⟩
   go_wp2_with fail
   first|go_ret|skip
   exact⟨rfl,rfl⟩
  ·have hpar:((b.toNat:Int)-48)%2=1:=by omega
   rw[decide_eq_false hp]
   clear hp hln
   go_enter Tryz.func211,Tryz.ntmps211
   go_wp2_with fail
   refine(HC.out _).mono ?_
   rintro e w1 ⟨rfl,rfl⟩
   go_wp2_with fail
   first|go_ret|skip
   exact⟨rfl,rfl⟩
theorem ZlB(q:Rat):cmpR (q-((flo q:Int):Rat)) 0=if flr q=0 then 0 else 1:=by
 have h:=Zen q
 by_cases h0:flr q=0
 ·rw[if_pos h0,(ZhG q).1 h0];rfl
 ·rw[if_neg h0]
  unfold cmpR
  have h1:q-((flo q:Int):Rat)≠0:=fun e=>h0 ((ZhG q).2 e)
  rw[if_neg (Rat.not_lt.2 h),if_pos (Rat.lt_of_le_of_ne h (Ne.symm h1))]
theorem ZlC(q:Rat):cmpR (q-((flo q:Int):Rat)) (Rat.divInt 1 2)=sgnI (flr q+flr q-q.den):=by
 rw[Zdq,Zd8 _ _ (by have:=q.den_pos;omega) (by omega)]
 congr 1
 omega
theorem ZfH(f:Fr)(hf:f.Sz 5000):Gives 180 #[FrV f,.int .i64 1] (S (txtL (rnd f.rat))):=by
 intro w hp
 have H:=hdz ((Kp.start hp).new w.heap.size rfl #[.string ⟨f.n.toArray⟩,.string ⟨f.d.toArray⟩] 26)
 have hFL:=fun W=>Zcx f W (hf.more (by omega))
 obtain⟨K,hK⟩:∃K:Nat,K=5000:=⟨_,rfl⟩
 have hsz:RB K f.rat:=by rw[←hK] at hf;exact Zd7 hf (by omega)
 have hlo:=ZhI hsz (by omega)
 have l1:=Zab hlo
 have z1:(frOf ((flo f.rat:Int):Rat)).Sz (K+1+1):=Zam (Zc7 hlo (by omega))
 have z2:(frOf (f.rat-((flo f.rat:Int):Rat))).Sz (K+1):=Zam (Zjz hsz)
 have z3:(frOf (Rat.divInt 1 2)).Sz (1+1):=Zam (by unfold RB;decide+kernel)
 have z4:(frOf ((0:Int):Rat)).Sz (1+1):=Zam (by unfold RB;decide+kernel)
 have HFL:=hdz hFL
 have HO:=hdz (fun W=>ZbF (txtL (flo f.rat)) W (by omega))
 rw[Zaa] at HO
 have HSB:=hdz (fun W=>ZdW f (frOf ((flo f.rat:Int):Rat)) W (hf.more (by omega)) (z1.more (by omega)))
 rw[Zac] at HSB
 have HZ:=hdz (fun W=>ZbF [] W (by simp))
 rw[ZaD] at HZ
 have HC0:=hdz (fun W=>Zat (frOf (f.rat-((flo f.rat:Int):Rat))) (frOf ((0:Int):Rat)) W (z2.more (by omega)) (z4.more (by omega)))
 rw[Zac,Zac,show((0:Int):Rat)=0 from rfl,ZlB] at HC0
 have HAD:=hdz (fun W=>Zde (txtL (flo f.rat)) [49] W (by omega) (by simp))
 rw[Zaa,Za7] at HAD
 have HNW:=hdz (fun W=>ZfG ⟨[49],[50]⟩ W ⟨by simp,by simp⟩)
 rw[show newR ⟨[49],[50]⟩=(frOf (Rat.divInt 1 2),0) by decide+kernel] at HNW
 have HCH:=hdz (fun W=>Zat (frOf (f.rat-((flo f.rat:Int):Rat))) (frOf (Rat.divInt 1 2)) W (z2.more (by omega)) (z3.more (by omega)))
 rw[Zac,Zac,ZlC] at HCH
 have HCN:=hdz (fun W=>Zat f (frOf ((0:Int):Rat)) W (hf.more (by omega)) (z4.more (by omega)))
 have HEV:=hdz (fun W=>ZiJ (txtL (flo f.rat)) W (by omega))
 rw[Zaa] at HEV
 have HRC:=hdz (ZhB f.rat)
 clear hFL hf hp hK hsz hlo l1 z1 z2 z3 z4
 rw[show((0:Int):Rat)=0 from rfl] at HZ HCN
 generalize cmpR f.rat (frOf 0).rat=sn at*
 generalize frOf (f.rat-((flo f.rat:Int):Rat))=rest at*
 generalize frOf ((flo f.rat:Int):Rat)=ffl at*
 generalize frOf (Rat.divInt 1 2)=half at*
 generalize frOf 0=zero at*
 generalize f.rat=q at*
 obtain⟨tf,htf⟩:∃t,t=txtL (flo q):=⟨_,rfl⟩
 have HTF:=hdz htf
 rw[←htf] at HFL HO HAD HEV
 clear htf
 have x0:(w.alloc (.cells #[.string ⟨f.n.toArray⟩,.string ⟨f.d.toArray⟩] 26)).cell? ⟨w.heap.size,0,none⟩=some (.string ⟨f.n.toArray⟩):=H.out.c 0 0 rfl rfl
 have x1:(w.alloc (.cells #[.string ⟨f.n.toArray⟩,.string ⟨f.d.toArray⟩] 26)).cell? ⟨w.heap.size,1,none⟩=some (.string ⟨f.d.toArray⟩):=H.out.c 0 1 rfl rfl
 unfold FracPost StrPost CmpIPost QuoPost FrV at*
 unfold S at*
 go_enter Tryz.func180,Tryz.ntmps180
 go_wp2_with fail
 generalize w.alloc _=W at*
 refine(HFL.out _).mono ?_
 rintro e w1 ⟨rfl,hb⟩
 replace H:=hdz (H.out.here hb)
 clear hb x0 x1
 go_upto_region 2 with (fail)
 go_cut [6] (fun u wc=>∃p:Nat,u=.pointer (some ⟨p,0,none⟩)∧Hid (Kp w [(p,#[.string ⟨rest.n.toArray⟩,.string ⟨rest.d.toArray⟩],26),(w.heap.size,#[.string ⟨f.n.toArray⟩,.string ⟨f.d.toArray⟩],26)] wc))
 case first=>
  have hS:=hdz (fun X (h:Bz w1 X)=>(show X.cell? ⟨w.heap.size,0,none⟩=some (.string ⟨f.n.toArray⟩)∧X.cell? ⟨w.heap.size,1,none⟩=some (.string ⟨f.d.toArray⟩) from⟨(H.out.here h).c 0 0 rfl rfl,(H.out.here h).c 0 1 rfl rfl⟩))
  go_region_held3 (fun w'=>w'.cell? ⟨w.heap.size,0,none⟩=some (.string ⟨f.n.toArray⟩)∧w'.cell? ⟨w.heap.size,1,none⟩=some (.string ⟨f.d.toArray⟩))
   (first|(exact hS.out _ (by repeat' (first|assumption|exact Bz.refl _|refine Bz.drew ?_|refine Bz.alloc ?_ _|refine Bz.set ?_ (by first|assumption|exact Nat.le_refl _|exact Bz.size (by assumption)) _ _)))|go_keep)
   (first
     |(go_at_call 49;refine(HO.out _).mono ?_;rintro e v1 ⟨rfl,hb1⟩;(try unfold FrV S);have hz1:Bz w1 v1:=Bz.call (by repeat' (first|assumption|exact Bz.refl _|refine Bz.drew ?_|refine Bz.alloc ?_ _|refine Bz.set ?_ (by first|assumption|exact Nat.le_refl _|exact Bz.size (by assumption)) _ _)) hb1
       first|(have q1:BlkB v1 w1.heap.size #[.string ⟨#[]⟩,.string ⟨#[]⟩] 26:=BlkB.here (w:=(w1.alloc (.cells #[.string ⟨#[]⟩,.string ⟨#[]⟩] 26)).drew) (heap_alloc_new w1 _) hb1)|skip)
     |(go_at_call 64;refine(HSB.out _).mono ?_;rintro e v2 ⟨rfl,hb2⟩;(try unfold FrV S);have hz2:Bz w1 v2:=Bz.call (by repeat' (first|assumption|exact Bz.refl _|refine Bz.drew ?_|refine Bz.alloc ?_ _|refine Bz.set ?_ (by first|assumption|exact Nat.le_refl _|exact Bz.size (by assumption)) _ _)) hb2
       first
        |(have q2:=q1.here hb2;have n0:=q2.cell 0 rfl;have n1:=q2.cell 1 rfl;have g0:=q2.frozen 0;have g1:=q2.frozen 1)
        |(have q2:BlkB v2 v1.heap.size #[.string ⟨#[]⟩,.string ⟨#[]⟩] 26:=BlkB.here (w:=v1.alloc (.cells #[.string ⟨#[]⟩,.string ⟨#[]⟩] 26)) (heap_alloc_new v1 _) hb2;have n0:=q2.cell 0 rfl;have n1:=q2.cell 1 rfl;have g0:=q2.frozen 0;have g1:=q2.frozen 1)
        |skip))
  all_goals
   go_wp2_with fail
   go_meet
   first
    |exact⟨_,rfl,(H.out.join hz2 q2 (by first|exact Nat.le_refl _|exact hz1.size)).set2 _ _⟩
    |exact⟨_,rfl,(H.out.here hz2).new _ rfl _ _⟩
    |exact⟨_,rfl,((H.out.here hz2).new _ rfl _ _).set2 _ _⟩
 case rest=>
 clear H HO HSB HFL
 obtain⟨p,rfl,H⟩:=hcut
 go_wp2_with fail
 refine(HZ.out _).mono ?_
 rintro e w3 ⟨rfl,hb⟩
 replace H:=hdz ((H.out.here hb).new w3.heap.size rfl #[.string ⟨zero.n.toArray⟩,.string ⟨zero.d.toArray⟩] 26)
 clear hb HZ
 go_upto_region 4 with (fail)
 generalize w3.alloc _=W3 at*
 generalize w3.heap.size=pz at*
 have c0:=H.out.c 0 0 rfl rfl;have c1:=H.out.c 0 1 rfl rfl;have d0:=H.out.c 1 0 rfl rfl;have d1:=H.out.c 1 1 rfl rfl
 rcases HRC.out with ⟨hr,hres⟩|⟨hr,hs,hres⟩|⟨hr,hs,hres⟩|⟨hr,hs,hres⟩
 ·rw[if_pos hr] at HC0
  have HRES:=hdz hres
  clear hr hres HRC
  go_wp2_with fail
  refine(HC0.out _).mono ?_
  rintro e w4 ⟨rfl,hb⟩
  go_wp2_with fail
  first|go_ret|skip
  rw[HRES.out,←HTF.out]
  exact⟨rfl,(H.out.here hb).bl⟩
 all_goals
  rw[if_neg hr] at HC0
  rw[hs] at HCH
  have HRES:=hdz hres
  clear hr hs hres HRC
  go_wp2_with fail
  refine(HC0.out _).mono ?_
  rintro e w4 ⟨rfl,hb⟩
  replace H:=hdz (H.out.here hb)
  clear hb c0 c1 d0 d1 HC0
  go_wp2_with fail
  refine(HAD.out _).mono ?_
  rintro e w5 ⟨rfl,hb⟩
  replace H:=hdz (H.out.here hb)
  clear hb HAD
  go_wp2_with fail
  refine(HNW.out _).mono ?_
  rintro e w6 ⟨rfl,hb⟩
  replace H:=hdz ((H.out.here hb).new w6.heap.size rfl #[.string ⟨half.n.toArray⟩,.string ⟨half.d.toArray⟩] 26)
  clear hb HNW
  go_upto_region 8 with (fail)
  generalize w6.alloc _=W6 at*
  generalize w6.heap.size=ph at*
  have c0:=H.out.c 0 0 rfl rfl;have c1:=H.out.c 0 1 rfl rfl;have d0:=H.out.c 2 0 rfl rfl;have d1:=H.out.c 2 1 rfl rfl
  go_wp2_with fail
  refine(HCH.out _).mono ?_
  rintro e w7 ⟨rfl,hb⟩
  replace H:=hdz (H.out.here hb)
  clear hb c0 c1 d0 d1 HCH
  have c0:=H.out.c 1 0 rfl rfl;have c1:=H.out.c 1 1 rfl rfl;have d0:=H.out.c 3 0 rfl rfl;have d1:=H.out.c 3 1 rfl rfl
  go_wp2_with fail
  refine(HCN.out _).mono ?_
  rintro e w8 ⟨rfl,hb⟩
  replace H:=hdz (H.out.here hb)
  clear hb c0 c1 d0 d1 HCN
 ·go_wp2_with fail
  first|go_ret|skip
  rw[HRES.out,←HTF.out]
  exact⟨rfl,H.out.bl⟩
 ·by_cases he:(flo q).fmod 2=0
  ·rw[if_pos he] at HRES
   rw[show decide ((flo q).fmod 2=0)=true by simp[he]] at HEV
   clear he
   go_wp2_with fail
   refine(HEV.out _).mono ?_
   rintro e w9 ⟨rfl,rfl⟩
   go_wp2_with fail
   first|go_ret|skip
   rw[HRES.out,←HTF.out]
   exact⟨rfl,H.out.bl⟩
  ·rw[if_neg he] at HRES
   rw[show decide ((flo q).fmod 2=0)=false by simp[he]] at HEV
   clear he
   go_wp2_with fail
   refine(HEV.out _).mono ?_
   rintro e w9 ⟨rfl,rfl⟩
   go_wp2_with fail
   first|go_ret|skip
   rw[HRES.out]
   exact⟨rfl,H.out.bl⟩
 ·go_wp2_with fail
  first|go_ret|skip
  rw[HRES.out]
  exact⟨rfl,H.out.bl⟩
theorem ZiK(w:World):Calls Tryz.prog 179 #[.int .i64 1] w fun e w'=>e=.returned (.bool true)∧w=w':=by
 go_enter Tryz.func179,Tryz.ntmps179
 go_wp2_with fail
 first|go_ret|skip
 exact⟨rfl,rfl⟩
theorem Zex(f:Fr)(hf:f.Sz 5000):Gives 136 #[FrV f,.int .i64 1] (.tuple #[S (txtL (rnd f.rat)),.int .i64 0]):=by
 intro w hp
 have H:=hdz ((Kp.start hp).new w.heap.size rfl #[.string ⟨f.n.toArray⟩,.string ⟨f.d.toArray⟩] 26)
 have HM:=hdz ZiK
 have HR:=hdz (ZfH f hf)
 have x0:(w.alloc (.cells #[.string ⟨f.n.toArray⟩,.string ⟨f.d.toArray⟩] 26)).cell? ⟨w.heap.size,0,none⟩=some (.string ⟨f.n.toArray⟩):=H.out.c 0 0 rfl rfl
 have x1:(w.alloc (.cells #[.string ⟨f.n.toArray⟩,.string ⟨f.d.toArray⟩] 26)).cell? ⟨w.heap.size,1,none⟩=some (.string ⟨f.d.toArray⟩):=H.out.c 0 1 rfl rfl
 generalize txtL (rnd f.rat)=res at*
 clear hf hp
 unfold FrV at*
 unfold S at*
 go_enter Tryz.func136,Tryz.ntmps136
 go_wp2_with fail
 generalize w.alloc _=W at*
 refine(HM.out _).mono ?_
 rintro e w1 ⟨rfl,rfl⟩
 go_wp2_with fail
 refine(HR.out _ H.out.pw).mono ?_
 rintro e w2 ⟨rfl,hb⟩
 go_wp2_with fail
 first|go_ret2|skip
 exact⟨rfl,(H.out.here hb).bl⟩
end
section
open Go.RowKit Go.Shelf
theorem Za5(a:List UInt8)(w:World)(ha:a.length≤100000000):Calls Tryz.prog 137 #[S a] w fun e w'=>e=.returned (.bool (decide (val a<0)))∧w=w':=by
 have HC:=hdz (fun W=>Zau a [] W ha (by simp))
 rw[ZaD,Int.sub_zero] at HC
 have HE:=hdz (show decide (sgnI (val a)<0)=decide (val a<0) by rw[Bool.eq_iff_iff,decide_eq_true_eq,decide_eq_true_eq];unfold sgnI;(repeat' split)<;>omega)
 generalize sgnI (val a)=z at*
 generalize decide (val a<0)=bb at*
 clear ha
 unfold S at*
 go_enter Tryz.func137,Tryz.ntmps137
 go_wp2_with fail
 refine(HC.out _).mono ?_
 rintro e w1 ⟨rfl,rfl⟩
 go_wp2_with fail
 first|go_ret|skip
 exact⟨Zaf HE.out,rfl⟩
theorem ZbN(A:Option Addr)(n c:Nat)(ws:List (List UInt8))(w:World)(hs:Strs w w.heap.size A n ws)(hl:∀x∈ws,x.length≤50000)(hn:n≤9999):
 Calls Tryz.prog 69 #[.slice A n c] w (StrPost (txtL (sumV ws)) w):=by
 have HPO:=hdz (show StrPost (txtL (sumV ws)) w=fun e w'=>e=.returned (S (txtL (sumV ws)))∧Below w.heap.size w w' from rfl)
 generalize StrPost (txtL (sumV ws)) w=post at*
 have HS:=hdz hs;have HL:=hdz hl
 have H0:=hdz (Below.refl w.heap.size w)
 have hnw:=hs.1
 have HNW:=hdz hnw
 clear hs hl hnw
 unfold S at*
 go_enter Tryz.func69,Tryz.ntmps69
 go_wp2_with fail
 go_loopw [3,4] (fun s i wr=>∃k:Nat,k≤n∧i=.int .i64 k∧s=.string ⟨(txtL (sumV (ws.take k))).toArray⟩∧Hid (Below w.heap.size w wr)) (fun _ i _=>n-(intOf i).toNat)
 case atStart=>exact⟨0,Nat.zero_le _,rfl,rfl,H0⟩
 case round=>
  clear H0
  obtain⟨k,hk,rfl,rfl,H⟩:=hrel
  by_cases hlt:k<n
  ·obtain⟨b,off,x,rfl,hb,hx,d0⟩:=(HS.out.below H.out).st hlt
   have HA:=hdz (Zde (txtL (sumV (ws.take k))) x wr (by have:=Zbb HL.out (by rw[←HNW.out];omega) k;omega) (by have:=HL.out x (List.mem_of_getElem? hx);omega))
   rw[Zaa,←Zee hx] at HA
   clear hx
   unfold S at HA
   go_wp2_with fail
   refine HA.out.mono ?_
   rintro e w1 ⟨rfl,hb1⟩
   try unfold S
   go_wp2_with fail
   go_roundw
   case rel=>exact⟨k+1,by omega,by go_num,rfl,H.out.trans (hb1.mono H.out.size)⟩
   case measure=>simp[intOf];omega
  ·have HE:=hdz (show txtL (sumV (ws.take k))=txtL (sumV ws) by rw[List.take_of_length_le (by have:=HNW.out;omega)])
   rw[HE.out]
   go_wp2_with fail
   first|go_ret|skip
   rw[HPO.out]
   exact⟨rfl,H.out⟩
theorem Zg6(t:List UInt8)(A:Option Addr)(n c:Nat)(ws:List (List UInt8))(w:World)(hs:Strs w w.heap.size A n ws)(ht:t.length≤100000)(hl:∀x∈ws,x.length≤50000)(hn:n≤1000000000):
 Calls Tryz.prog 212 #[S t,.slice A n c] w (CmpIPost (splitC t ws) w):=by
 have HPO:=hdz (show CmpIPost (splitC t ws) w=fun e w'=>e=.returned (.int .i64 (splitC t ws))∧Below w.heap.size w w' from rfl)
 have HSC:=hdz (show splitC t ws=if ws=[] then 11 else if 1000<ws.length then 4 else if canB t=false∨ws.any (fun x=> !canB x||decide (val x<0))=true then 1 else if sumV ws=0 then 10 else 0 from rfl)
 generalize CmpIPost (splitC t ws) w=post at*
 generalize splitC t ws=res at*
 have HS:=hdz hs;have HL:=hdz hl
 have H0:=hdz (Below.refl w.heap.size w)
 have hnw:=hs.1
 have HC:=hdz (fun W=>ZaK t W (by omega))
 have HCX:=hdz (fun x (hx:x∈ws) W=>ZaK x W (by have:=hl x hx;omega))
 have HNX:=hdz (fun x (hx:x∈ws) W=>Za5 x W (by have:=hl x hx;omega))
 have HNW:=hdz hnw
 clear hs hl ht
 unfold S at*
 rcases Nat.eq_zero_or_pos n with h0|h0
 ·subst h0
  rw[if_pos (List.eq_nil_of_length_eq_zero hnw.symm)] at HSC
  clear hnw hn
  go_enter Tryz.func212,Tryz.ntmps212
  go_wp2_with fail
  first|go_ret|skip
  rw[HPO.out,HSC.out]
  exact⟨rfl,H0.out⟩
 rw[if_neg (fun e=>by rw[e] at hnw;simp at hnw;omega),←hnw] at HSC
 have hn0:((n:Int)==0)=false:=by simp;omega
 by_cases h1:1000<n
 ·rw[if_pos h1] at HSC
  clear hnw
  go_enter Tryz.func212,Tryz.ntmps212
  go_wp2_with fail
  first|go_ret|skip
  rw[HPO.out,HSC.out]
  exact⟨rfl,H0.out⟩
 rw[if_neg h1] at HSC
 have hn1:¬1000<n:=h1
 have HW:=hdz (fun W (hb:Below w.heap.size w W)=>ZbN A n c ws W (HS.out.here hb) HL.out (by omega))
 have HE:=hdz (show(txtL (sumV ws)==[])=decide (sumV ws=0) by
  rw[Bool.eq_iff_iff]
  simp only[beq_iff_eq,decide_eq_true_eq]
  exact ZaQ)
 clear hnw h1
 generalize canB t=ct at*
 cases ct with
 |false=>
  rw[if_pos (.inl rfl)] at HSC
  clear HW HE HCX HNX
  go_enter Tryz.func212,Tryz.ntmps212
  go_wp2_with fail
  refine(HC.out _).mono ?_
  rintro e w1 ⟨rfl,rfl⟩
  go_wp2_with fail
  first|go_ret|skip
  rw[HPO.out,HSC.out]
  exact⟨rfl,H0.out⟩
 |true=>
  rw[if_pos rfl] at HC
  go_enter Tryz.func212,Tryz.ntmps212
  go_wp2_with fail
  refine(HC.out _).mono ?_
  rintro e w1 ⟨rfl,rfl⟩
  go_wp2_with fail
  go_loopw [5] (fun i wr=>∃k:Nat,k≤n∧i=.int .i64 k∧Hid ((ws.take k).any (fun x=> !canB x||decide (val x<0))=false)∧Hid (Below w.heap.size w wr)) (fun i _=>n-(intOf i).toNat)
  case atStart=>exact⟨0,Nat.zero_le _,rfl,by show _=_;simp,H0⟩
  case round=>
   clear H0
   obtain⟨k,hk,rfl,HAN,H⟩:=hrel
   by_cases hlt:k<n
   ·obtain⟨b,off,x,rfl,hb,hx,d0⟩:=(HS.out.below H.out).st hlt
    have hxm:=List.mem_of_getElem? hx
    have HC1:=hdz (HCX.out x hxm)
    have HN1:=hdz (HNX.out x hxm)
    have HX:=hdz hx
    clear hx hxm
    cases hcx:canB x with
    |false=>
     rw[hcx,if_neg (by decide)] at HC1
     rw[if_pos (.inr (List.any_eq_true.2 ⟨x,List.mem_of_getElem? HX.out,by rw[hcx];rfl⟩))] at HSC
     clear hcx
     go_wp2_with fail
     refine(HC1.out _).mono ?_
     rintro e w1 ⟨rfl,rfl⟩
     go_wp2_with fail
     first|go_ret|skip
     rw[HPO.out,HSC.out]
     exact⟨rfl,H.out⟩
    |true=>
     rw[hcx,if_pos rfl] at HC1
     cases hng:decide (val x<0) with
     |true=>
      rw[hng] at HN1
      rw[if_pos (.inr (List.any_eq_true.2 ⟨x,List.mem_of_getElem? HX.out,by rw[hng,hcx];rfl⟩))] at HSC
      clear hcx hng
      go_wp2_with fail
      refine(HC1.out _).mono ?_
      rintro e w1 ⟨rfl,rfl⟩
      go_wp2_with fail
      refine(HN1.out _).mono ?_
      rintro e w1 ⟨rfl,rfl⟩
      go_wp2_with fail
      first|go_ret|skip
      rw[HPO.out,HSC.out]
      exact⟨rfl,H.out⟩
     |false=>
      rw[hng] at HN1
      have HAN2:=hdz (Zc0 HX.out HAN.out (by rw[hng,hcx];rfl))
      clear hcx hng
      go_wp2_with fail
      refine(HC1.out _).mono ?_
      rintro e w1 ⟨rfl,rfl⟩
      go_wp2_with fail
      refine(HN1.out _).mono ?_
      rintro e w1 ⟨rfl,rfl⟩
      go_wp2_with fail
      go_roundw
      case rel=>exact⟨k+1,by omega,by go_num,HAN2.out,H.out⟩
      case measure=>simp[intOf];omega
   ·have HAA:=hdz (show ws.any (fun x=> !canB x||decide (val x<0))=false by
     have:=HAN.out
     rwa [List.take_of_length_le (by have:=HNW.out;omega)] at this)
    rw[if_neg (fun h=>h.elim (fun h=>by cases h) (fun h=>by rw[HAA.out] at h;cases h))] at HSC
    clear HCX HNX
    generalize txtL (sumV ws)=tw at*
    generalize hz:decide (sumV ws=0)=zz at*
    have HZ:=hdz hz
    clear hz
    cases zz with
    |true=>
     rw[if_pos (by have:=HZ.out;simpa using this)] at HSC
     have hx:(tw==[])=true:=HE.out
     have hx2:tw.isEmpty=true:=by cases tw<;>simp_all
     clear HE HZ
     go_wp2_with fail
     refine(HW.out _ H.out).mono ?_
     rintro e w3 ⟨rfl,hb⟩
     try unfold S
     go_wp2_with fail
     first|go_ret|skip
     rw[HPO.out,HSC.out]
     exact⟨rfl,H.out.trans (hb.mono H.out.size)⟩
    |false=>
     rw[if_neg (by have:=HZ.out;simpa using this)] at HSC
     have hx:(tw==[])=false:=HE.out
     have hx2:tw.isEmpty=false:=by cases tw<;>simp_all
     clear HE HZ
     go_wp2_with fail
     refine(HW.out _ H.out).mono ?_
     rintro e w3 ⟨rfl,hb⟩
     try unfold S
     go_wp2_with fail
     first|go_ret|skip
     rw[HPO.out,HSC.out]
     exact⟨rfl,H.out.trans (hb.mono H.out.size)⟩
end
section
open Go.RowKit Go.Shelf
def st84(v u:Value):Sem Unit:=Instr.storeAt 60 v u
theorem ZfI(v u:Value):Instr.storeAt 60 v u=st84 v u:=rfl
theorem ZnA:(Tryz.prog.info? 60).map (·.size)=some 19:=by kernel_rfl
theorem ZdX{w:World}{g:Nat}{pb cs:Array Value}(hg:BlkB w g pb 60)(hs:pb.size=19)(hc:cs.size=19)(h1:cs.all (·.oneCell')=true):(st84 (.pointer (some ⟨g,0,none⟩)) (.agg cs)).run Tryz.prog w=.ok () (w.setRow g cs):=by
 have e:=run_storeVar_row (P:=Tryz.prog) w g 60 60 pb cs hg (by rw[ZnA,hc]) (by omega) h1
 unfold st84
 simp only[Instr.storeAt,Instr.sureAddr,Sem.run_bind,Sem.run_pure,Result.andThen_ok,e]
section
variable {w W:World} {g p:Nat} {pb cs ds:Array Value} {T U:TypeId}
theorem BlkB.row(h:BlkB w g pb T)(cs:Array Value):BlkB (w.setRow g cs) g cs T:=setRow_heap w g pb cs T (0,0) h
theorem BlkB.farRow(h:BlkB w p ds U)(hp:p≠g)(cs:Array Value):BlkB (w.setRow g cs) p ds U:=(setRow_other w g p cs hp).trans h
theorem Zdh(v:PlV)(hn:v.n.oneCell'=true)(hq:v.q.oneCell'=true)(hf:v.f.oneCell'=true)(hp:v.p.oneCell'=true):(plB v).all (·.oneCell')=true:=by
 have h:∀s:ByteArray,(Value.string s).oneCell'=true:=fun _=>rfl
 unfold plB
 simp only[List.all_toArray,List.all_cons,List.all_nil,hn,hq,hf,hp,h,Bool.and_true]
 rfl
end
theorem Zbv:ElemT Tryz.prog 58 24 1 16:=ZbP Tryz.underlying58 (by kernel_rfl) (by decide) (by decide)
theorem Zgo{W:World}{q:Nat}{s:List UInt8}{T:TypeId}(h:BlkB W q #[.string ⟨s.toArray⟩] T):Strs W W.heap.size (some ⟨q,0,none⟩) 1 [s]:=by
 refine⟨rfl,fun _=>⟨q,0,rfl,h.lt,fun j z hj k u hk=> ?_⟩⟩
 cases j with
 |zero=>
  simp only[List.getElem?_cons_zero,Option.some.injEq] at hj
  subst hj
  rw[Nat.zero_mul,Nat.zero_add]
  exact h.cell k (by simpa[S1,S] using hk)
 |succ j=>simp at hj
theorem ZdI{α:Type}{enc:α→List Value}{k base n c:Nat}{e:TypeId}{W:World}{A:Option Addr}{xs:List α}{g:Nat}(h:Own enc k e W base (.slice A n c) xs)(hg:(Value.slice A n c).ownBlock=some g):base≤g∧g<W.heap.size:=by
 obtain⟨A',c',hv,_,_,_,h5⟩:=h.form
 exact(h5 g hg).2
structure TwoO (base:Nat) (W1 X:World) (A1:Option Addr) (n1 c1:Nat) (xs:List (List UInt8)) (A2:Option Addr) (n2 c2:Nat) (ys:List (List UInt8)):Prop where
 o1:Own S1 1 24 X base (.slice A1 n1 c1) xs
 o2:Own S1 1 24 X base (.slice A2 n2 c2) ys
 ap:∀g,(Value.slice A1 n1 c1).ownBlock=some g→(Value.slice A2 n2 c2).ownBlock≠some g
 bl:Below base W1 X
 hb:base≤X.heap.size
section
variable {base:Nat} {W1 X Y:World} {A1 A2 A3:Option Addr} {n1 c1 n2 c2 n3 c3:Nat} {xs ys zs:List (List UInt8)}
theorem TwoO.nil(hb:base≤X.heap.size)(hl:Below base W1 X):TwoO base W1 X none 0 0 [] none 0 0 []:=⟨Own.nil,Own.nil,fun g h=>by simp[Value.ownBlock] at h,hl,hb⟩
theorem TwoO.alloc(h:TwoO base W1 X A1 n1 c1 xs A2 n2 c2 ys)(o:Obj):TwoO base W1 (X.alloc o) A1 n1 c1 xs A2 n2 c2 ys:=⟨h.o1.alloc o,h.o2.alloc o,h.ap,h.bl.alloc h.hb o,by have:=h.hb;simp;omega⟩
theorem TwoO.drew(h:TwoO base W1 X A1 n1 c1 xs A2 n2 c2 ys):TwoO base W1 X.drew A1 n1 c1 xs A2 n2 c2 ys:=⟨h.o1,h.o2,h.ap,h.bl.drew,h.hb⟩
theorem TwoO.below(h:TwoO base W1 X A1 n1 c1 xs A2 n2 c2 ys)(hb:Below X.heap.size X Y):TwoO base W1 Y A1 n1 c1 xs A2 n2 c2 ys:=⟨h.o1.below hb,h.o2.below hb,h.ap,h.bl.trans (hb.mono h.hb),Nat.le_trans h.hb hb.size⟩
theorem TwoO.app1(h:TwoO base W1 X A1 n1 c1 xs A2 n2 c2 ys)(ho:Own S1 1 24 Y base (.slice A3 n3 c3) zs)(hg:X.grownBy Y (Value.slice A1 n1 c1).ownBlock)(hat:A3.map Addr.block=(Value.slice A1 n1 c1).ownBlock∨A3.map Addr.block=some X.heap.size):TwoO base W1 Y A3 n3 c3 zs A2 n2 c2 ys:=by
 refine⟨ho,h.o2.grown hg ?_,?_,Zae h.bl hg h.hb (fun g e=>(ZdI h.o1 e).1),Nat.le_trans h.hb hg.size⟩
 ·cases e:(Value.slice A2 n2 c2).ownBlock with
  |none=>exact .inl rfl
  |some g=>exact .inr fun e'=>h.ap g e'.symm e
 ·intro g e e2
  have e3:A3.map Addr.block=some g:=by cases A3 with|none=>simp[Value.ownBlock] at e|some ad=>simpa[Value.ownBlock] using e
  rcases hat with hat|hat
  ·rw[e3] at hat;exact h.ap g hat.symm e2
  ·rw[e3] at hat;injection hat with hat;have:=(ZdI h.o2 e2).2;omega
theorem TwoO.app2(h:TwoO base W1 X A1 n1 c1 xs A2 n2 c2 ys)(ho:Own S1 1 24 Y base (.slice A3 n3 c3) zs)(hg:X.grownBy Y (Value.slice A2 n2 c2).ownBlock)(hat:A3.map Addr.block=(Value.slice A2 n2 c2).ownBlock∨A3.map Addr.block=some X.heap.size):TwoO base W1 Y A1 n1 c1 xs A3 n3 c3 zs:=by
 refine⟨h.o1.grown hg ?_,ho,?_,Zae h.bl hg h.hb (fun g e=>(ZdI h.o2 e).1),Nat.le_trans h.hb hg.size⟩
 ·cases e:(Value.slice A1 n1 c1).ownBlock with
  |none=>exact .inl rfl
  |some g=>exact .inr fun e'=>h.ap g e e'.symm
 ·intro g e e2
  have e3:A3.map Addr.block=some g:=by cases A3 with|none=>simp[Value.ownBlock] at e2|some ad=>simpa[Value.ownBlock] using e2
  rcases hat with hat|hat
  ·rw[e3] at hat;exact h.ap g e hat.symm
  ·rw[e3] at hat;injection hat with hat;have:=(ZdI h.o1 e).2;omega
end
end
section
open Go.RowKit Go.Shelf
theorem ZmW{W:World}{base g:Nat}{u:Value}{xs:List Fr}(h:Own F2 2 26 W base u xs)(hg:u.ownBlock=some g):base≤g:=by
 obtain⟨A,c,rfl,h1,h2,h3,h4⟩:=h.form
 exact(h4 g hg).2.1
theorem ZmX(x:Fr):∀u∈F2 x,u.oneCell'=true:=by simp[F2,S,Value.oneCell']
theorem ZmY:ElemT Tryz.prog 92 26 2 32:=ZbP Tryz.underlying92 (by kernel_rfl) (by decide) (by decide)
theorem Zn8{W:World}{q:Nat}{f:Fr}{T:TypeId}(h:BlkB W q #[.string ⟨f.n.toArray⟩,.string ⟨f.d.toArray⟩] T):Frs W W.heap.size (some ⟨q,0,none⟩) 1 [f]:=by
 refine⟨rfl,fun _=>⟨q,0,rfl,h.lt,fun j z hj k u hk=> ?_⟩⟩
 cases j with
 |zero=>
  simp only[List.getElem?_cons_zero,Option.some.injEq] at hj
  subst hj
  rw[Nat.zero_mul,Nat.zero_add]
  exact h.cell k (by simpa[F2,S] using hk)
 |succ j=>simp at hj
def idl(t:List UInt8)(ws:List (List UInt8)):List Fr:=ws.map fun x=>frOf (Rat.divInt (val t*val x) (sumV ws))
def IdPost(t:List UInt8)(ws:List (List UInt8))(n:Nat)(w:World)(e:Ending)(w':World):Prop:=
 ∃A' c',e=.returned (.tuple #[.slice A' n c',.int .i64 0])∧Own F2 2 26 w' w.heap.size (.slice A' n c') (idl t ws)∧Below w.heap.size w w'
end
end Go.Proofs.YtpnncoinlopndaaGreatDoor
