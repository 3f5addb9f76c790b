/- Lt1, Lt2, Sm, Lt3. -/
import Derived.Test.YtpnncoinlopndaaGreatDoorQGSm11
import Derived.Maps.Views
import Derived.Maps.OwnSet
import Derived.StringKeys
set_option maxRecDepth 20000
set_option maxHeartbeats 2000000
namespace Go.Proofs.YtpnncoinlopndaaGreatDoor
open Go.Lib renaming hid→hdz
section
open Go.RowKit Go.Shelf
theorem ZjI(l:List UInt8)(a b:Nat):(⟨l.toArray⟩:ByteArray).extract a b=⟨((l.take b).drop a).toArray⟩:=by
 apply ByteArray.ext
 rw[ByteArray.data_extract,List.extract_toArray,List.extract_eq_take_drop,List.drop_take]
theorem ZjJ(s:List UInt8)(hs:s.length≤1000000000):Gives 207 #[S s,.string ⟨#[47]⟩] (.tuple #[S (cutN s),S (cutR s),.bool (decide (47∈s))]):=by
 intro w hp
 have H:=hdz (Kp.start hp)
 have HIX:=hdz (fun W=>Tryz.stringslite_Index_one ⟨s.toArray⟩ 47 W)
 rw[show(⟨s.toArray⟩:ByteArray).data.toList=s from rfl] at HIX
 obtain⟨i1,i2⟩:=Zgi s
 have hsz:=Zag s
 clear hp
 by_cases h:47∈s
 ·obtain⟨a1,a2,a3,a4⟩:=i1 h
  rw[a1] at HIX
  rw[decide_eq_true h]
  have HN:=hdz (show(⟨s.toArray⟩:ByteArray).extract 0 (cutN s).length=⟨(cutN s).toArray⟩ by rw[ZjI,a3];rfl)
  have HR:=hdz (show(⟨s.toArray⟩:ByteArray).extract ((cutN s).length+1) s.length=⟨(cutR s).toArray⟩ by rw[ZjI,List.take_length,a4])
  generalize hk:(cutN s).length=k at*
  have hb1:k<(⟨s.toArray⟩:ByteArray).size:=by rw[hsz];exact a2
  have hb2:(⟨s.toArray⟩:ByteArray).size≤1000000000:=by rw[hsz];exact hs
  clear i1 i2 h a1 a2 a3 a4 hk hsz hs
  unfold S
  go_enter Tryz.func207,Tryz.ntmps207
  go_wp2_with fail
  refine(HIX.out _).mono ?_
  rintro e w1 ⟨rfl,rfl⟩
  go_upto_region 3 with (fail)
  go_region
  all_goals
   go_wp2_with fail
   go_ret3
   rw[HN.out,HR.out]
   exact⟨rfl,H.out.bl.drew⟩
 ·obtain⟨a1,a2,a3⟩:=i2 h
  rw[a1] at HIX
  rw[decide_eq_false h,a2,a3]
  clear i1 i2 h a1 a2 a3 hsz hs
  unfold S
  go_enter Tryz.func207,Tryz.ntmps207
  go_wp2_with fail
  refine(HIX.out _).mono ?_
  rintro e w1 ⟨rfl,rfl⟩
  go_wp2_with fail
  first|go_ret3|skip
  exact⟨rfl,H.out.bl⟩
theorem Zlf(s:List UInt8)(hs:s.length≤1000000000):Gives 173 #[S s,.string ⟨#[47]⟩] (.tuple #[S (cutN s),S (cutR s),.bool (decide (47∈s))]):=by
 intro w hp
 have H:=hdz (Kp.start hp)
 have HC:=hdz (ZjJ s hs)
 clear hp hs
 generalize cutN s=a at*
 generalize cutR s=b at*
 generalize decide (47∈s)=bb at*
 unfold S at*
 go_enter Tryz.func173,Tryz.ntmps173
 go_wp2_with fail
 refine(HC.out _ H.out.pw).mono ?_
 rintro e w1 ⟨rfl,hb⟩
 go_wp2_with fail
 first|go_ret3|skip
 exact⟨rfl,(H.out.here hb).bl⟩
theorem Zlg(s:List UInt8)(hs:s.length≤1000000):Gives 131 #[S s] (.bool (idB s)):=by
 intro w hp
 have H:=hdz (Kp.start hp)
 have HC:=hdz (Zlf s (by omega))
 have HB:=hdz (Zl7 s)
 rw[HB.out,ZjH]
 have hrl:(cutR s).length≤s.length:=by
  unfold cutR
  rw[List.length_drop]
  have:=(List.dropWhile_suffix (fun x:UInt8=>x !=47) (l:=s)).length_le
  omega
 have HNM:=hdz (Zbu (cutN s))
 generalize cutN s=a at*
 generalize cutR s=r at*
 generalize decide (47∈s)=bb at*
 generalize nameB a=nb at*
 have hrs:=Zag r
 clear HB
 rcases ha:Lib.atoiAll r with v|_|_
 ·have HA:=hdz (fun W=>(Tryz.strconv_Atoi_ok ⟨r.toArray⟩ (by rw[hrs];omega) v ha W).mono (R':=fun(e:Ending) (w':World)=>e=Ending.returned (.tuple #[.int .i64 v,.nilIface])∧Below W.heap.size W w') (by
   rintro e w' ⟨he,rfl|⟨t,rfl⟩⟩
   ·exact⟨he,Below.refl _ _⟩
   ·exact⟨he,Lib.bytesWorld_below _ _ _⟩))
  obtain⟨v1,v2⟩:=Lib.atoiAll_bounds ha
  have HI:=hdz (fun W (hp:Env W)=>ZhH v v1 v2 W hp.pow)
  clear ha hs hrl hrs hp
  simp only
  generalize Lib.itoa v=iv at*
  by_cases h1:1≤v
  ·by_cases h2:v≤9999
   ·rw[decide_eq_true h1,decide_eq_true h2,Bool.true_and,Bool.true_and]
    cases h3:(iv==r)
    ·unfold S at*
     go_enter Tryz.func131,Tryz.ntmps131
     go_wp2_with fail
     refine(HC.out _ H.out.pw).mono ?_
     rintro e w1 ⟨rfl,hb⟩
     replace H:=hdz (H.out.here hb)
     clear hb
     go_wp2_with fail
     refine(HA.out _).mono ?_
     rintro e w2 ⟨rfl,hb⟩
     replace H:=hdz (H.out.here hb)
     clear hb
     go_wp2_with fail
     refine(HI.out _ H.out.pw).mono ?_
     rintro e w3 ⟨rfl,hb⟩
     replace H:=hdz (H.out.here hb)
     clear hb
     go_wp2_with fail
     first|go_ret|skip
     exact⟨rfl,H.out.bl⟩
    ·unfold S at*
     go_enter Tryz.func131,Tryz.ntmps131
     go_wp2_with fail
     refine(HC.out _ H.out.pw).mono ?_
     rintro e w1 ⟨rfl,hb⟩
     replace H:=hdz (H.out.here hb)
     clear hb
     go_wp2_with fail
     refine(HA.out _).mono ?_
     rintro e w2 ⟨rfl,hb⟩
     replace H:=hdz (H.out.here hb)
     clear hb
     go_wp2_with fail
     refine(HI.out _ H.out.pw).mono ?_
     rintro e w3 ⟨rfl,hb⟩
     replace H:=hdz (H.out.here hb)
     clear hb
     go_wp2_with fail
     refine(HNM.out _ H.out.pw).mono ?_
     rintro e w4 ⟨rfl,hb⟩
     go_wp2_with fail
     first|go_ret|skip
     exact⟨rfl,(H.out.here hb).bl⟩
   ·rw[decide_eq_true h1,decide_eq_false h2,Bool.true_and,Bool.false_and,Bool.false_and]
    unfold S at*
    go_enter Tryz.func131,Tryz.ntmps131
    go_wp2_with fail
    refine(HC.out _ H.out.pw).mono ?_
    rintro e w1 ⟨rfl,hb⟩
    replace H:=hdz (H.out.here hb)
    clear hb
    go_wp2_with fail
    refine(HA.out _).mono ?_
    rintro e w2 ⟨rfl,hb⟩
    go_wp2_with fail
    first|go_ret|skip
    exact⟨rfl,(H.out.here hb).bl⟩
  ·rw[decide_eq_false h1,Bool.false_and,Bool.false_and]
   unfold S at*
   go_enter Tryz.func131,Tryz.ntmps131
   go_wp2_with fail
   refine(HC.out _ H.out.pw).mono ?_
   rintro e w1 ⟨rfl,hb⟩
   replace H:=hdz (H.out.here hb)
   clear hb
   go_wp2_with fail
   refine(HA.out _).mono ?_
   rintro e w2 ⟨rfl,hb⟩
   go_wp2_with fail
   first|go_ret|skip
   exact⟨rfl,(H.out.here hb).bl⟩
 ·have HA:=hdz (fun W (hp:Env W)=>let⟨tp,p,hv⟩:=hp.syn;(Tryz.strconv_Atoi_syntax_var ⟨r.toArray⟩ (by rw[hrs];omega) ha tp p W hv).mono (R':=fun(e:Ending) (w':World)=>∃(N:Nat) (tt:TypeId),e=Ending.returned (.tuple #[.int .i64 0,.iface tt (.pointer (some ⟨N,0,none⟩))])∧Below W.heap.size W w') (by
   rintro e w' ⟨N,he,_,_,hb⟩
   exact⟨N,_,he,hb⟩))
  clear ha hs hrl hrs hp
  rw[Bool.false_and]
  unfold S at*
  go_enter Tryz.func131,Tryz.ntmps131
  go_wp2_with fail
  refine(HC.out _ H.out.pw).mono ?_
  rintro e w1 ⟨rfl,hb⟩
  replace H:=hdz (H.out.here hb)
  clear hb
  go_wp2_with fail
  refine(HA.out _ H.out.pw).mono ?_
  rintro e w2 ⟨N,tt,rfl,hb⟩
  go_wp2_with fail
  first|go_ret|skip
  exact⟨rfl,(H.out.here hb).bl⟩
 ·have HA:=hdz (fun W (hp:Env W)=>let⟨tp,p,hv⟩:=hp.rng;(Tryz.strconv_Atoi_range_var ⟨r.toArray⟩ (by rw[hrs];omega) ha tp p W hv).mono (R':=fun(e:Ending) (w':World)=>∃(z:Int) (N:Nat) (tt:TypeId),e=Ending.returned (.tuple #[.int .i64 z,.iface tt (.pointer (some ⟨N,0,none⟩))])∧Below W.heap.size W w') (by
   rintro e w' ⟨N,he,_,_,hb⟩
   exact⟨_,N,_,he,hb⟩))
  clear ha hs hrl hrs hp
  rw[Bool.false_and]
  unfold S at*
  go_enter Tryz.func131,Tryz.ntmps131
  go_wp2_with fail
  refine(HC.out _ H.out.pw).mono ?_
  rintro e w1 ⟨rfl,hb⟩
  replace H:=hdz (H.out.here hb)
  clear hb
  go_wp2_with fail
  refine(HA.out _ H.out.pw).mono ?_
  rintro e w2 ⟨z,N,tt,rfl,hb⟩
  go_wp2_with fail
  first|go_ret|skip
  exact⟨rfl,(H.out.here hb).bl⟩
end
section
open Go.RowKit Go.Shelf
theorem ZjK(n:Int):decide (sgnI n≤0)=decide (n≤0):=by unfold sgnI;(repeat' split)<;>simp<;>omega
theorem Zfx(n:Int):decide (sgnI n<0)=decide (n<0):=by unfold sgnI;(repeat' split)<;>simp<;>omega
theorem Ze3(l:Lot)(hl:l.Sz 50000):Gives 83 #[LotV l] (.int .i64 (lotC l)):=by
 intro w hp
 have HPO:=hdz (show lotC l=if !(idB l.id&&nameB l.inst) then 23 else if !(dayB l.acq&&dayB l.opn) then 13 else if l.opn<l.acq then 8
  else if !(canB l.q&&canB l.c&&canB l.u) then 1 else if val l.q≤0∨val l.c<0∨(l.u≠[]∧l.u≠l.q) then 2 else 0 from rfl)
 generalize lotC l=res at*
 have H:=hdz ((Kp.start hp).new w.heap.size rfl #[.string ⟨l.id.toArray⟩,.string ⟨l.inst.toArray⟩,.int .i64 l.acq,.int .i64 l.opn,.string ⟨l.q.toArray⟩,.string ⟨l.c.toArray⟩,.string ⟨l.u.toArray⟩] 54)
 have HID:=hdz (Zlg l.id (by have:=hl.id;omega))
 have HNM:=hdz (Zbu l.inst)
 have HAQ:=hdz (Ze2 l.acq hl.a1 hl.a2)
 have HOP:=hdz (Ze2 l.opn hl.o1 hl.o2)
 have HCQ:=hdz (Zaz l.q (by have:=hl.q;omega))
 have HCC:=hdz (Zaz l.c (by have:=hl.c;omega))
 have HCU:=hdz (Zaz l.u (by have:=hl.u;omega))
 have HMQ:=hdz (fun W=>Zar l.q [] W (by have:=hl.q;omega) (by simp))
 have HMC:=hdz (fun W=>Zar l.c [] W (by have:=hl.c;omega) (by simp))
 rw[ZaD,Int.sub_zero] at HMQ HMC
 obtain⟨b1,hb1⟩:∃b,b= !(idB l.id&&nameB l.inst):=⟨_,rfl⟩
 obtain⟨b2,hb2⟩:∃b,b= !(dayB l.acq&&dayB l.opn):=⟨_,rfl⟩
 have B1:=hdz hb1
 have B2:=hdz hb2
 rw[←hb1,←hb2] at HPO
 clear hb1 hb2 hl hp
 have x0:(w.alloc (.cells #[.string ⟨l.id.toArray⟩,.string ⟨l.inst.toArray⟩,.int .i64 l.acq,.int .i64 l.opn,.string ⟨l.q.toArray⟩,.string ⟨l.c.toArray⟩,.string ⟨l.u.toArray⟩] 54)).cell? ⟨w.heap.size,0,none⟩=some (.string ⟨l.id.toArray⟩):=H.out.c 0 0 rfl rfl
 unfold LotV
 unfold S at*
 go_enter Tryz.func83,Tryz.ntmps83
 go_upto_region 1 with (fail)
 generalize (w.alloc _)=W0 at*
 go_upto_region 1 with (fail)
 go_cut [14] (fun s wc=>s=.bool b1∧Hid (Kp w [(w.heap.size,#[.string ⟨l.id.toArray⟩,.string ⟨l.inst.toArray⟩,.int .i64 l.acq,.int .i64 l.opn,.string ⟨l.q.toArray⟩,.string ⟨l.c.toArray⟩,.string ⟨l.u.toArray⟩],54)] wc))
 case first=>
  cases e1:idB l.id
  ·rw[e1] at HID
   have HE:=hdz (show b1=true by rw[B1.out,e1];rfl)
   clear e1
   go_wp2_with fail
   refine(HID.out _ H.out.pw).mono ?_
   rintro e v1 ⟨rfl,hb⟩
   replace H:=hdz (H.out.here hb)
   clear hb
   clear x0
   go_wp2_with fail
   go_meet
   exact⟨by rw[HE.out],H⟩
  ·rw[e1] at HID
   have HE:=hdz (show b1= !nameB l.inst by rw[B1.out,e1];rfl)
   clear e1
   go_wp2_with fail
   refine(HID.out _ H.out.pw).mono ?_
   rintro e v1 ⟨rfl,hb⟩
   replace H:=hdz (H.out.here hb)
   clear hb
   clear x0
   have x1:v1.cell? ⟨w.heap.size,1,none⟩=some (.string ⟨l.inst.toArray⟩):=H.out.c 0 1 rfl rfl
   go_wp2_with fail
   refine(HNM.out _ H.out.pw).mono ?_
   rintro e v2 ⟨rfl,hb⟩
   replace H:=hdz (H.out.here hb)
   clear hb
   go_wp2_with fail
   go_meet
   exact⟨by rw[HE.out],H⟩
 case rest=>
 obtain⟨rfl,H⟩:=hcut
 obtain⟨v3,rfl⟩:∃W,W=wc:=⟨_,rfl⟩
 cases b1 with
 |true=>
  rw[if_pos rfl] at HPO
  go_wp2_with fail
  first|go_ret|skip
  rw[HPO.out]
  exact⟨rfl,H.out.bl⟩
 |false=>
 rw[if_neg (by decide)] at HPO
 clear HID HNM B1
 have x2:v3.cell? ⟨w.heap.size,2,none⟩=some (.int .i64 l.acq):=H.out.c 0 2 rfl rfl
 go_upto_region 3 with (fail)
 go_cut [24] (fun s wc=>s=.bool b2∧Hid (Kp w [(w.heap.size,#[.string ⟨l.id.toArray⟩,.string ⟨l.inst.toArray⟩,.int .i64 l.acq,.int .i64 l.opn,.string ⟨l.q.toArray⟩,.string ⟨l.c.toArray⟩,.string ⟨l.u.toArray⟩],54)] wc))
 case first=>
  cases e1:dayB l.acq
  ·rw[e1] at HAQ
   have HE:=hdz (show b2=true by rw[B2.out,e1];rfl)
   clear e1
   go_wp2_with fail
   refine(HAQ.out _ H.out.pw).mono ?_
   rintro e v1 ⟨rfl,hb⟩
   replace H:=hdz (H.out.here hb)
   clear hb
   clear x2
   go_wp2_with fail
   go_meet
   exact⟨by rw[HE.out],H⟩
  ·rw[e1] at HAQ
   have HE:=hdz (show b2= !dayB l.opn by rw[B2.out,e1];rfl)
   clear e1
   go_wp2_with fail
   refine(HAQ.out _ H.out.pw).mono ?_
   rintro e v1 ⟨rfl,hb⟩
   replace H:=hdz (H.out.here hb)
   clear hb
   clear x2
   have x3:v1.cell? ⟨w.heap.size,3,none⟩=some (.int .i64 l.opn):=H.out.c 0 3 rfl rfl
   go_wp2_with fail
   refine(HOP.out _ H.out.pw).mono ?_
   rintro e v2 ⟨rfl,hb⟩
   replace H:=hdz (H.out.here hb)
   clear hb
   go_wp2_with fail
   go_meet
   exact⟨by rw[HE.out],H⟩
 case rest=>
 obtain⟨rfl,H⟩:=hcut
 obtain⟨v4,rfl⟩:∃W,W=wc:=⟨_,rfl⟩
 cases b2 with
 |true=>
  rw[if_pos rfl] at HPO
  go_wp2_with fail
  first|go_ret|skip
  rw[HPO.out]
  exact⟨rfl,H.out.bl⟩
 |false=>
 rw[if_neg (by decide)] at HPO
 clear HAQ HOP B2
 have x2:v4.cell? ⟨w.heap.size,2,none⟩=some (.int .i64 l.acq):=H.out.c 0 2 rfl rfl
 have x3:v4.cell? ⟨w.heap.size,3,none⟩=some (.int .i64 l.opn):=H.out.c 0 3 rfl rfl
 by_cases h3:l.opn<l.acq
 ·rw[if_pos h3] at HPO
  go_wp2_with fail
  first|go_ret|skip
  rw[HPO.out]
  exact⟨rfl,H.out.bl⟩
 rw[if_neg h3] at HPO
 have x4:v4.cell? ⟨w.heap.size,4,none⟩=some (.string ⟨l.q.toArray⟩):=H.out.c 0 4 rfl rfl
 have x5:v4.cell? ⟨w.heap.size,5,none⟩=some (.string ⟨l.c.toArray⟩):=H.out.c 0 5 rfl rfl
 have x6:v4.cell? ⟨w.heap.size,6,none⟩=some (.string ⟨l.u.toArray⟩):=H.out.c 0 6 rfl rfl
 have HSL:=hdz (show Strs (v4.alloc (.cells #[.string ⟨l.q.toArray⟩,.string ⟨l.c.toArray⟩,.string ⟨l.u.toArray⟩] 24)) (v4.heap.size+1) (some ⟨v4.heap.size,0,none⟩) 3 [l.q,l.c,l.u] from Sl.lit v4 _ 24 [l.q,l.c,l.u] rfl ZaL)
 have HSL2:=hdz (show(v4.alloc (.cells #[.string ⟨l.q.toArray⟩,.string ⟨l.c.toArray⟩,.string ⟨l.u.toArray⟩] 24)).heap.size=v4.heap.size+1 by simp)
 have H5:=hdz (H.out.alloc (.cells #[.string ⟨l.q.toArray⟩,.string ⟨l.c.toArray⟩,.string ⟨l.u.toArray⟩] 24))
 go_upto_region 8 with (fail)
 generalize v4.alloc _=W5 at*
 rw[←HSL2.out] at HSL
 clear H x2 x3 x4 x5 x6 HSL2 h3
 have HCK:=hdz (show ∀x∈[l.q,l.c,l.u],Gives 57 #[.string ⟨x.toArray⟩] (.int .i64 (if x=txtL (val x) then 0 else 1)) by
  intro x hx
  simp only[List.mem_cons,List.mem_nil_iff,or_false] at hx
  rcases hx with rfl|rfl|rfl
  ·exact HCQ.out
  ·exact HCC.out
  ·exact HCU.out)
 have HALL:=hdz (show(canB l.q&&canB l.c&&canB l.u)=[l.q,l.c,l.u].all canB by simp[Bool.and_assoc])
 rw[HALL.out] at HPO
 clear HCQ HCC HCU HALL
 generalize hls:[l.q,l.c,l.u]=ls at*
 have HLS:=hdz (show ls.length=3 by rw[←hls];rfl)
 clear hls
 go_loopw [38] (fun i wr=>∃k:Nat,k≤3∧i=.int .i64 k∧Hid ((ls.take k).all canB=true)∧Hid (Kp w [(w.heap.size,#[.string ⟨l.id.toArray⟩,.string ⟨l.inst.toArray⟩,.int .i64 l.acq,.int .i64 l.opn,.string ⟨l.q.toArray⟩,.string ⟨l.c.toArray⟩,.string ⟨l.u.toArray⟩],54)] wr)∧Hid (Below W5.heap.size W5 wr)) (fun i _=>3-(intOf i).toNat)
 case atStart=>exact⟨0,Nat.zero_le _,rfl,by show _=_;simp,H5,Below.refl _ _⟩
 case round=>
  clear H5
  obtain⟨k,hk,rfl,HA,H,HB⟩:=hrel
  by_cases hlt:k<3
  ·obtain⟨b,off,x,hA,hbl,hx,d0⟩:=(HSL.out.below HB.out).st hlt
   injection hA with hA
   injection hA with ha1 ha2
   subst ha1;subst ha2
   rw[Nat.zero_add] at d0
   have HC:=hdz (HCK.out x (List.mem_of_getElem? hx))
   have HX:=hdz hx
   clear hx
   by_cases hc:x=txtL (val x)
   ·rw[if_pos hc] at HC
    have HCB:=hdz (show canB x=true by unfold canB;simpa using hc)
    clear hc
    go_wp2_with fail
    refine(HC.out _ H.out.pw).mono ?_
    rintro e v6 ⟨rfl,hb⟩
    go_wp2_with fail
    go_roundw
    case rel=>exact⟨k+1,by omega,by go_num,(by
     show _=true
     obtain⟨hk3,e⟩:=List.getElem?_eq_some_iff.1 HX.out
     rw[List.take_succ_eq_append_getElem hk3,List.all_append,HA.out,e]
     simp[HCB.out]),H.out.here hb,HB.out.trans (hb.mono HB.out.size)⟩
    case measure=>simp[intOf];omega
   ·rw[if_neg hc] at HC
    have HCB:=hdz (show ls.all canB=false by
     rw[List.all_eq_false]
     exact⟨x,List.mem_of_getElem? HX.out,by unfold canB;simpa using hc⟩)
    clear hc
    rw[HCB.out,if_pos (by decide)] at HPO
    go_wp2_with fail
    refine(HC.out _ H.out.pw).mono ?_
    rintro e v6 ⟨rfl,hb⟩
    go_wp2_with fail
    first|go_ret|skip
    rw[HPO.out]
    exact⟨rfl,(H.out.here hb).bl⟩
  ·have hk3:k=3:=by omega
   subst hk3
   have HA3:=hdz (show ls.all canB=true by have:=HA.out;rwa [List.take_of_length_le (by have:=HLS.out;omega)] at this)
   rw[HA3.out,if_neg (by decide)] at HPO
   clear HA hlt hk HCK
   have x4:wr.cell? ⟨w.heap.size,4,none⟩=some (.string ⟨l.q.toArray⟩):=H.out.c 0 4 rfl rfl
   have HLE:=hdz (ZjK (val l.q))
   have HLT:=hdz (Zfx (val l.c))
   generalize sgnI (val l.q)=sq at*
   generalize sgnI (val l.c)=sc at*
   by_cases h1:val l.q≤0
   ·rw[if_pos (.inl h1)] at HPO
    have hd:decide (sq≤0)=true:=by rw[HLE.out];simpa using h1
    clear h1 HLE HLT HMC
    go_wp2_with fail
    refine(HMQ.out _).mono ?_
    rintro e v6 ⟨rfl,hb⟩
    go_wp2_with fail
    first|go_ret|skip
    rw[HPO.out]
    exact⟨rfl,(H.out.here hb).bl⟩
   have hd:decide (sq≤0)=false:=by rw[HLE.out];simpa using h1
   go_wp2_with fail
   refine(HMQ.out _).mono ?_
   rintro e v6 ⟨rfl,hb⟩
   replace H:=hdz (H.out.here hb)
   clear hb x4 HLE HMQ
   have x5:v6.cell? ⟨w.heap.size,5,none⟩=some (.string ⟨l.c.toArray⟩):=H.out.c 0 5 rfl rfl
   by_cases h2:val l.c<0
   ·rw[if_pos (.inr (.inl h2))] at HPO
    have hd2:decide (sc<0)=true:=by rw[HLT.out];simpa using h2
    clear h1 h2 HLT
    go_wp2_with fail
    refine(HMC.out _).mono ?_
    rintro e v7 ⟨rfl,hb⟩
    go_wp2_with fail
    first|go_ret|skip
    rw[HPO.out]
    exact⟨rfl,(H.out.here hb).bl⟩
   have hd2:decide (sc<0)=false:=by rw[HLT.out];simpa using h2
   go_wp2_with fail
   refine(HMC.out _).mono ?_
   rintro e v7 ⟨rfl,hb⟩
   replace H:=hdz (H.out.here hb)
   have HR:=hdz (show res=if(!(l.u==[])&& !(l.u==l.q))=true then 2 else 0 by
    rw[HPO.out]
    by_cases e1:l.u=[]<;>by_cases e2:l.u=l.q<;>simp[h1,h2,e1,e2])
   clear hb x5 HLT HMC h1 h2 HPO
   have x4:v7.cell? ⟨w.heap.size,4,none⟩=some (.string ⟨l.q.toArray⟩):=H.out.c 0 4 rfl rfl
   have x6:v7.cell? ⟨w.heap.size,6,none⟩=some (.string ⟨l.u.toArray⟩):=H.out.c 0 6 rfl rfl
   cases e1:(l.u==[])<;>cases e2:(l.u==l.q)
   all_goals
    rw[e1,e2] at HR
    go_wp2_with fail
    first|go_ret|skip
    rw[HR.out]
    exact⟨rfl,H.out.bl⟩
end
section
open Go.RowKit Go.Shelf
def SeenB(w:World)(b n:Nat)(l:List (List UInt8)):Prop:=
 ∃D:DataW Unit,w.ownsMap Tryz.prog 9 (plainElem Tryz.prog 4) b n D∧Maps.IsMap D∧∀s,D.atKey (.string s) (.lit (.bool false))=.lit (.bool (decide (s∈l)))
theorem ZjL(w:World):SeenB (w.alloc (.map #[] 0)) w.heap.size 0 []:=
 ⟨.map [],World.ownsMap_made _ _ _ _,⟨[],rfl⟩,fun s=>by simp[DataW.atKey]⟩
section
variable {w W W':World} {p:Nat} {bs:List (Nat×Array Value×TypeId)}
theorem Kp.none(h:Kp w bs W):Kp w [] W:=⟨h.pow,h.bl,fun _ h=>by simp at h,.nil,fun _ h=>by simp at h⟩
theorem Kp.turn(h:Kp w [] W)(hg:W.grownBy W' (some p))(hp:w.heap.size≤p):Kp w [] W':=
 ⟨h.pow,h.bl.trans ⟨hg.os,hg.tape,hg.output,hg.size,fun k hk=>hg.block k (by have:=h.bl.size;omega) (fun e=>by injection e with e;omega)⟩,fun _ h=>by simp at h,.nil,fun _ h=>by simp at h⟩
end
section
variable {w w':World} {b n:Nat} {l:List (List UInt8)} {t:TypeId}
theorem SeenB.lt(h:SeenB w b n l):b<w.heap.size:=h.elim fun _ h=>h.1.lt
theorem SeenB.here(h:SeenB w b n l)(hb:Below w.heap.size w w'):SeenB w' b n l:=by
 obtain⟨D,⟨es,clock,h1,h2⟩,h3⟩:=h
 exact⟨D,⟨es,clock,(hb.block b (Array.getElem?_eq_some_iff.1 h1).1).trans h1,h2⟩,h3⟩
theorem SeenB.alloc(h:SeenB w b n l)(o:Obj):SeenB (w.alloc o) b n l:=h.here ((Below.refl _ _).alloc (Nat.le_refl _) o)
theorem SeenB.drew(h:SeenB w b n l):SeenB w.drew b n l:=h
theorem SeenB.far(h:SeenB w b n l){a:Addr}(hb:b≠a.block)(u:Value):SeenB (w.setCell a u) b n l:=by
 obtain⟨D,⟨es,clock,h1,h2⟩,h3⟩:=h
 exact⟨D,⟨es,clock,(Below.heap_setCell w a u b hb).trans h1,h2⟩,h3⟩
theorem SeenB.look(h:SeenB w b n l)(ht:Tryz.prog.underlying t=some (.map 9 4)){s:List UInt8}(hs:s.length≤maxLen):(Instr.lookup t (.map (some b)) (.string ⟨s.toArray⟩) false).run Tryz.prog w=.ok (.bool (decide (s∈l))) w:=by
 obtain⟨D,h1,h2,h3⟩:=h
 obtain⟨v,ps,hr,hv⟩:=h1.lookup (Maps.string_keyed Tryz.underlying9) ht (z:=.bool false) (by kernel_rfl) (plainElem_bool Tryz.underlying4 false) (key:=.string ⟨s.toArray⟩) (kl:=.string s) (by
  rw[Go.WideMaps.keyOf_string_mk Tryz.underlying9 (show(ByteArray.mk s.toArray).size≤maxLen from hs)])
 rw[h3 s] at hv
 unfold plainElem at hv
 rw[show Tryz.prog.underlying 4=some .bool from Tryz.underlying4] at hv
 cases v<;>simp at hv
 rw[hr,hv.1]
theorem SeenB.put(h:SeenB w b n l)(ht:Tryz.prog.underlying t=some (.map 9 4))(hn:n<maxLen){s:List UInt8}(hs:s.length≤maxLen):
 ∃w',(Instr.mapUpdate t (.map (some b)) (.string ⟨s.toArray⟩) (.bool true)).run Tryz.prog w=.ok () w'∧SeenB w' b (n+1) (s::l)∧w.grownBy w' (some b):=by
 obtain⟨D,h1,h2,h3⟩:=h
 obtain⟨w',hr,ho,hg⟩:=h1.update (Maps.string_keyed Tryz.underlying9) ht hn (key:=.string ⟨s.toArray⟩) (kl:=.string s) (by
  rw[Go.WideMaps.keyOf_string_mk Tryz.underlying9 (show(ByteArray.mk s.toArray).size≤maxLen from hs)]) (plainElem_bool Tryz.underlying4 true)
 refine⟨w',hr,⟨_,ho,h2.put _ _,fun s'=> ?_⟩,hg⟩
 by_cases e:s'=s
 ·subst e
  rw[Maps.atKey_put_same h2 (by simp[WideAt.IsKeyLit])]
  simp
 ·rw[Maps.atKey_put_other (by intro h;injection h with h;exact e h),h3 s']
  simp[e]
end
end
section
open Go.RowKit Go.Shelf
theorem Sl.lot{w:World}{B:Nat}{A:Option Addr}{n:Nat}{xs:List Lot}{i:Nat}(h:Lots w B A n xs)(hi:i<n):
 ∃b off x,A=some ⟨b,off,none⟩∧b<B∧xs[i]?=some x∧w.cell? ⟨b,off+i*7,none⟩=some (.string ⟨x.id.toArray⟩)∧w.cell? ⟨b,off+i*7+1,none⟩=some (.string ⟨x.inst.toArray⟩)∧w.cell? ⟨b,off+i*7+2,none⟩=some (.int .i64 x.acq)∧
  w.cell? ⟨b,off+i*7+3,none⟩=some (.int .i64 x.opn)∧w.cell? ⟨b,off+i*7+4,none⟩=some (.string ⟨x.q.toArray⟩)∧w.cell? ⟨b,off+i*7+5,none⟩=some (.string ⟨x.c.toArray⟩)∧w.cell? ⟨b,off+i*7+6,none⟩=some (.string ⟨x.u.toArray⟩):=by
 obtain⟨b,off,x,hA,hb,hx,hc⟩:=h.at_ hi
 exact⟨b,off,x,hA,hb,hx,hc 0 _ rfl,hc 1 _ rfl,hc 2 _ rfl,hc 3 _ rfl,hc 4 _ rfl,hc 5 _ rfl,hc 6 _ rfl⟩
theorem ZdG(A:Option Addr)(n c:Nat)(ls:List Lot)(w:World)(hp:Env w)(hs:Lots w w.heap.size A n ls)(hl:∀x∈ls,x.Sz 50000)(hn:n≤1000000000):Calls Tryz.prog 71 #[.slice A n c] w (CmpIPost (allC ls) w):=by
 have HPO:=hdz (show CmpIPost (allC ls) w=fun e w'=>e=.returned (.int .i64 (allC ls))∧Below w.heap.size w w' from rfl)
 have HSC:=hdz (show allC ls=if 1000<ls.length then 4 else lotsC [] ls from rfl)
 generalize CmpIPost (allC ls) w=post at*
 generalize allC ls=res at*
 have HS:=hdz hs
 have hnw:=hs.1
 have H:=hdz (Kp.start hp)
 have HCK:=hdz (fun x hx=>Ze3 x (hl x hx))
 have HL:=hdz hl
 rw[←hnw] at HSC
 clear hs hl hp
 by_cases h1:1000<n
 ·rw[if_pos h1] at HSC
  clear hnw hn
  go_enter Tryz.func71,Tryz.ntmps71
  go_wp2_with fail
  first|go_ret|skip
  rw[HPO.out,HSC.out]
  exact⟨rfl,H.out.bl⟩
 rw[if_neg h1] at HSC
 have hn1:¬1000<n:=h1
 have HNW:=hdz hnw
 have hmm:= @run_makeMap Tryz.prog
 have HM:=hdz (ZjL w)
 have H1:=hdz (H.out.alloc (.map #[] 0))
 clear hnw h1 H
 go_enter Tryz.func71,Tryz.ntmps71
 go_wp2_with fail
 generalize hW:w.alloc (.map #[] 0)=W at*
 obtain⟨p,hpw⟩:∃p,w.heap.size=p:=⟨_,rfl⟩
 rw[hpw] at HM ⊢
 have HP:=hdz hpw
 clear hpw hW
 go_loopw [2,5,6,13] (fun r _ _ i wr=>∃(k:Nat) (seen:List (List UInt8)),k≤n∧r=.int .i64 0∧i=.int .i64 k∧Hid (Kp w [] wr)∧Hid (SeenB wr p k seen)∧Hid (lotsC seen (ls.drop k)=res)) (fun _ _ _ i _=>n-(intOf i).toNat)
 case atStart=>exact⟨0,[],Nat.zero_le _,rfl,rfl,H1,HM,by show _=_;rw[List.drop_zero];exact HSC.out.symm⟩
 case round=>
  clear H1 HM
  obtain⟨k,seen,hk,rfl,rfl,H,HM,HQ⟩:=hrel
  by_cases hlt:k<n
  ·obtain⟨b,off,x,rfl,hb,hx,d0,d1,d2,d3,d4,d5,d6⟩:=(HS.out.below H.out.bl).lot hlt
   have HX:=hdz hx
   clear hx
   have HB:=hdz (H.out.new wr.heap.size rfl #[.string ⟨x.id.toArray⟩,.string ⟨x.inst.toArray⟩,.int .i64 x.acq,.int .i64 x.opn,.string ⟨x.q.toArray⟩,.string ⟨x.c.toArray⟩,.string ⟨x.u.toArray⟩] 54)
   have HM2:=hdz (HM.out.alloc (.cells #[.string ⟨x.id.toArray⟩,.string ⟨x.inst.toArray⟩,.int .i64 x.acq,.int .i64 x.opn,.string ⟨x.q.toArray⟩,.string ⟨x.c.toArray⟩,.string ⟨x.u.toArray⟩] 54))
   have HC:=hdz (HCK.out x (List.mem_of_getElem? HX.out))
   have HZ:=hdz (HL.out x (List.mem_of_getElem? HX.out))
   have HDR:=hdz (show lotsC seen (x::ls.drop (k+1))=res by
    have hx:=HX.out
    obtain⟨hk,rfl⟩:=List.getElem?_eq_some_iff.1 hx
    rw[←List.drop_eq_getElem_cons hk]
    exact HQ.out)
   clear HQ
   unfold LotV S at HC
   go_upto_region 7 with (fail)
   generalize wr.alloc _=W1 at*
   clear d0 d1 d2 d3 d4 d5 d6 HM
   generalize hbb:wr.heap.size=b1 at*
   clear hbb
   have c0:=HB.out.c 0 0 rfl rfl;have c1:=HB.out.c 0 1 rfl rfl;have c2:=HB.out.c 0 2 rfl rfl;have c3:=HB.out.c 0 3 rfl rfl;have c4:=HB.out.c 0 4 rfl rfl;have c5:=HB.out.c 0 5 rfl rfl;have c6:=HB.out.c 0 6 rfl rfl
   go_wp2_with fail
   refine(HC.out _ HB.out.pw).mono ?_
   rintro e W2 ⟨rfl,hb2⟩
   replace HB:=hdz (HB.out.here hb2)
   replace HM2:=hdz (HM2.out.here hb2)
   clear c0 c1 c2 c3 c4 c5 c6 hb2
   have c0:=HB.out.c 0 0 rfl rfl
   have hlk:=HM2.out.look (t:=155) Tryz.underlying155 (s:=x.id) (by have:=HZ.out.id;unfold maxLen;omega)
   obtain⟨W3,hput,HM3,hg⟩:=HM2.out.put (t:=155) Tryz.underlying155 (by unfold maxLen;omega) (s:=x.id) (by have:=HZ.out.id;unfold maxLen;omega)
   have HK3:=hdz (HB.out.none.turn hg (by have:=HP.out;omega))
   have HM4:=hdz HM3
   clear HM3 hg
   have HLC:=hdz (show lotsC seen (x::ls.drop (k+1))=if lotC x≠0 then lotC x else if x.id∈seen then 5 else lotsC (x.id::seen) (ls.drop (k+1)) from rfl)
   rw[HDR.out] at HLC
   clear HDR
   generalize lotC x=z at*
   by_cases hz:z=0
   ·have hz0:(z !=0)=false:=by simp[hz]
    rw[if_neg (by simpa using hz)] at HLC
    cases hin:decide (x.id∈seen) with
    |true=>
     rw[hin] at hlk
     rw[if_pos (of_decide_eq_true hin)] at HLC
     clear hin hz
     go_wp2_with fail
     first|go_ret|skip
     rw[HPO.out,HLC.out]
     exact⟨rfl,HB.out.bl⟩
    |false=>
     rw[hin] at hlk
     rw[if_neg (of_decide_eq_false hin)] at HLC
     clear hin hz
     go_wp2_with fail
     go_roundw
     case rel=>exact⟨k+1,x.id::seen,by omega,rfl,by go_num,HK3,HM4,HLC.out.symm⟩
     case measure=>simp[intOf];omega
   ·have hz0:(z !=0)=true:=by simp[hz]
    rw[if_pos hz] at HLC
    clear hz
    go_wp2_with fail
    first|go_ret|skip
    rw[HPO.out,HLC.out]
    exact⟨rfl,HB.out.bl⟩
  ·have HE:=hdz (show res=0 by
    have:=HQ.out
    rw[List.drop_eq_nil_of_le (by have:=HNW.out;omega)] at this
    exact this.symm)
   go_wp2_with fail
   first|go_ret|skip
   rw[HPO.out,HE.out]
   exact⟨rfl,H.out.bl⟩
end
end Go.Proofs.YtpnncoinlopndaaGreatDoor
