/- Lt1, Fa1. -/
import Derived.Test.YtmamnnaiogidaaaGreatDoorQGU29
import Derived.Deep.DeepCutAuto
import Derived.OwnWalk
set_option maxRecDepth 20000
set_option maxHeartbeats 1000000
namespace Go.Proofs.YtmamnnaiogidaaaGreatDoor
open Go.Lib renaming hid→jq
open Go.RowKit Go.Shelf
section
theorem Zia(l:List UInt8)(a b:Nat):(⟨l.toArray⟩:ByteArray).extract a b=⟨((l.take b).drop a).toArray⟩:=by
 apply ByteArray.ext
 rw[ByteArray.data_extract,List.extract_toArray,List.extract_eq_take_drop,List.drop_take]
theorem ZiZ(s:List UInt8)(hs:s.length<=1000000000):Xh 218 #[S s,.string ⟨#[47]⟩] (.tuple #[S (Vg s),S (JQ s),.bool (decide (47∈s))]):=by
 intro w hp;have H:=jq (Kp.start hp);have HIX:=jq (fun W=>Tryz.stringslite_Index_one ⟨s.toArray⟩ 47 W);rw[show(⟨s.toArray⟩:ByteArray).data.toList=s from rfl] at HIX;obtain⟨i1,i2⟩:=Zel s
 have hsz:=QY s;clear hp
 by_cases h:47∈s
 ·obtain⟨a1,a2,a3,a4⟩:=i1 h
  rw[a1] at HIX;rw[decide_eq_true h];have HN:=jq (show(⟨s.toArray⟩:ByteArray).extract 0 (Vg s).length=⟨(Vg s).toArray⟩ by rw[Zia,a3];rfl);have HR:=jq (show(⟨s.toArray⟩:ByteArray).extract ((Vg s).length+1) s.length=⟨(JQ s).toArray⟩ by rw[Zia,List.take_length,a4]);generalize hk:(Vg s).length=k at*;have hb1:k<(⟨s.toArray⟩:ByteArray).size:=by rw[hsz];exact a2
  have hb2:(⟨s.toArray⟩:ByteArray).size<=1000000000:=by rw[hsz];exact hs
  clear i1 i2 h a1 a2 a3 a4 hk hsz hs;unfold S;go_enter Tryz.func218,Tryz.ntmps218
  go_wp2_with fail
  refine(HIX.out _).mono ?_;rintro e w1 ⟨rfl,rfl⟩;go_upto_region 3 with (fail)
  go_region
  all_goals
   go_wp2_with fail
   go_ret3
   rw[HN.out,HR.out];exact⟨rfl,H.out.bl.drew⟩
 ·obtain⟨a1,a2,a3⟩:=i2 h
  rw[a1] at HIX;rw[decide_eq_false h,a2,a3];clear i1 i2 h a1 a2 a3 hsz hs;unfold S;go_enter Tryz.func218,Tryz.ntmps218
  go_wp2_with fail
  refine(HIX.out _).mono ?_;rintro e w1 ⟨rfl,rfl⟩;go_wp2_with fail
  first|go_ret3|skip
  exact⟨rfl,H.out.bl⟩
theorem Zgd(s:List UInt8)(hs:s.length<=1000000000):Xh 185 #[S s,.string ⟨#[47]⟩] (.tuple #[S (Vg s),S (JQ s),.bool (decide (47∈s))]):=by
 intro w hp;have H:=jq (Kp.start hp);have HC:=jq (ZiZ s hs);clear hp hs;generalize Vg s=a at*;generalize JQ s=b at*;generalize decide (47∈s)=bb at*;unfold S at*
 go_enter Tryz.func185,Tryz.ntmps185
 go_wp2_with fail
 refine(HC.out _ H.out.pw).mono ?_;rintro e w1 ⟨rfl,hb⟩;go_wp2_with fail
 first|go_ret3|skip
 exact⟨rfl,(H.out.here hb).bl⟩
theorem ZkE(s:List UInt8)(hs:s.length<=1000000):Xh 139 #[S s] (.bool (idB s)):=by
 intro w hp;have H:=jq (Kp.start hp);have HC:=jq (Zgd s (by omega));have HB:=jq (Zka s);rw[HB.out,Zek]
 have hrl:(JQ s).length<=s.length:=by
  unfold JQ;rw[List.length_drop];have:=(List.dropWhile_suffix (fun x:UInt8=>x !=47) (l:=s)).length_le
  omega
 have HNM:=jq (XB (Vg s));generalize Vg s=a at*;generalize JQ s=r at*;generalize decide (47∈s)=bb at*;generalize Qk a=nb at*;have hrs:=QY r;clear HB
 rcases ha:Lib.atoiAll r with v|_|_
 ·have HA:=jq (fun W=>(Tryz.strconv_Atoi_ok ⟨r.toArray⟩ (by rw[hrs];omega) v ha W).mono (R':=fun(e:Ending) (w':World)=>e=Ending.returned (.tuple #[.int .i64 v,.nilIface])/\Below W.1.size W w') (by
   rintro e w' ⟨he,rfl|⟨t,rfl⟩⟩
   ·exact⟨he,Below.refl _ _⟩
   ·exact⟨he,Lib.bytesWorld_below _ _ _⟩))
  obtain⟨v1,v2⟩:=Lib.atoiAll_bounds ha
  have HI:=jq (fun W (hp:Env W)=>Zdr v v1 v2 W hp.pow);clear ha hs hrl hrs hp;simp only;generalize Lib.itoa v=iv at*
  by_cases h1:1<=v
  ·by_cases h2:v<=9999
   ·rw[decide_eq_true h1,decide_eq_true h2,Bool.true_and,Bool.true_and]
    cases h3:(iv==r)
    ·unfold S at*
     go_enter Tryz.func139,Tryz.ntmps139
     go_wp2_with fail
     refine(HC.out _ H.out.pw).mono ?_;rintro e w1 ⟨rfl,hb⟩;replace H:=jq (H.out.here hb);clear hb;go_wp2_with fail
     refine(HA.out _).mono ?_;rintro e w2 ⟨rfl,hb⟩;replace H:=jq (H.out.here hb);clear hb;go_wp2_with fail
     refine(HI.out _ H.out.pw).mono ?_;rintro e w3 ⟨rfl,hb⟩;replace H:=jq (H.out.here hb);clear hb;go_wp2_with fail
     first|go_ret|skip
     exact⟨rfl,H.out.bl⟩
    ·unfold S at*
     go_enter Tryz.func139,Tryz.ntmps139
     go_wp2_with fail
     refine(HC.out _ H.out.pw).mono ?_;rintro e w1 ⟨rfl,hb⟩;replace H:=jq (H.out.here hb);clear hb;go_wp2_with fail
     refine(HA.out _).mono ?_;rintro e w2 ⟨rfl,hb⟩;replace H:=jq (H.out.here hb);clear hb;go_wp2_with fail
     refine(HI.out _ H.out.pw).mono ?_;rintro e w3 ⟨rfl,hb⟩;replace H:=jq (H.out.here hb);clear hb;go_wp2_with fail
     refine(HNM.out _ H.out.pw).mono ?_;rintro e w4 ⟨rfl,hb⟩;go_wp2_with fail
     first|go_ret|skip
     exact⟨rfl,(H.out.here hb).bl⟩
   ·rw[decide_eq_true h1,decide_eq_false h2,Bool.true_and,Bool.false_and,Bool.false_and];unfold S at*
    go_enter Tryz.func139,Tryz.ntmps139
    go_wp2_with fail
    refine(HC.out _ H.out.pw).mono ?_;rintro e w1 ⟨rfl,hb⟩;replace H:=jq (H.out.here hb);clear hb;go_wp2_with fail
    refine(HA.out _).mono ?_;rintro e w2 ⟨rfl,hb⟩;go_wp2_with fail
    first|go_ret|skip
    exact⟨rfl,(H.out.here hb).bl⟩
  ·rw[decide_eq_false h1,Bool.false_and,Bool.false_and];unfold S at*
   go_enter Tryz.func139,Tryz.ntmps139
   go_wp2_with fail
   refine(HC.out _ H.out.pw).mono ?_;rintro e w1 ⟨rfl,hb⟩;replace H:=jq (H.out.here hb);clear hb;go_wp2_with fail
   refine(HA.out _).mono ?_;rintro e w2 ⟨rfl,hb⟩;go_wp2_with fail
   first|go_ret|skip
   exact⟨rfl,(H.out.here hb).bl⟩
 ·have HA:=jq (fun W (hp:Env W)=>let⟨tp,p,hv⟩:=hp.syn;(Tryz.strconv_Atoi_syntax_var ⟨r.toArray⟩ (by rw[hrs];omega) ha tp p W hv).mono (R':=fun(e:Ending) (w':World)=>∃(N:Nat) (tt:TypeId),e=Ending.returned (.tuple #[.int .i64 0,.iface tt (.pointer (some ⟨N,0,none⟩))])/\Below W.1.size W w') (by
   rintro e w' ⟨N,he,_,_,hb⟩;exact⟨N,_,he,hb⟩))
  clear ha hs hrl hrs hp;rw[Bool.false_and];unfold S at*
  go_enter Tryz.func139,Tryz.ntmps139
  go_wp2_with fail
  refine(HC.out _ H.out.pw).mono ?_;rintro e w1 ⟨rfl,hb⟩;replace H:=jq (H.out.here hb);clear hb;go_wp2_with fail
  refine(HA.out _ H.out.pw).mono ?_;rintro e w2 ⟨N,tt,rfl,hb⟩;go_wp2_with fail
  first|go_ret|skip
  exact⟨rfl,(H.out.here hb).bl⟩
 ·have HA:=jq (fun W (hp:Env W)=>let⟨tp,p,hv⟩:=hp.rng;(Tryz.strconv_Atoi_range_var ⟨r.toArray⟩ (by rw[hrs];omega) ha tp p W hv).mono (R':=fun(e:Ending) (w':World)=>∃(z:Int) (N:Nat) (tt:TypeId),e=Ending.returned (.tuple #[.int .i64 z,.iface tt (.pointer (some ⟨N,0,none⟩))])/\Below W.1.size W w') (by
   rintro e w' ⟨N,he,_,_,hb⟩;exact⟨_,N,_,he,hb⟩))
  clear ha hs hrl hrs hp;rw[Bool.false_and];unfold S at*
  go_enter Tryz.func139,Tryz.ntmps139
  go_wp2_with fail
  refine(HC.out _ H.out.pw).mono ?_;rintro e w1 ⟨rfl,hb⟩;replace H:=jq (H.out.here hb);clear hb;go_wp2_with fail
  refine(HA.out _ H.out.pw).mono ?_;rintro e w2 ⟨z,N,tt,rfl,hb⟩;go_wp2_with fail
  first|go_ret|skip
  exact⟨rfl,(H.out.here hb).bl⟩
end
section
def ZkF:List UInt8:=[65,66,67,68,69,70,71,72,73,74,75,76,77,78,79,80,81,82,83,84,85,86,87,88,89,90]
theorem Zbv{p:UInt8->Bool}:∀l:List UInt8,l.dropWhile p=[]↔l.all p=true
 |[]=>by simp
 |b::l=>by
  rw[List.dropWhile_cons,List.all_cons]
  cases h:p b
  ·simp
  ·simp[Zbv l]
theorem ZkG(l cs:List UInt8):(Lib.trimS l cs==[])=l.all (cs.contains ·):=by
 rw[Bool.eq_iff_iff,beq_iff_eq];unfold Lib.trimS Lib.trimLeftS Lib.trimRightS;rw[Zbv,List.all_reverse]
 constructor
 ·intro h
  by_cases e:l.reverse.dropWhile (cs.contains ·)=[]
  ·rw[Zbv,List.all_reverse] at e;exact e
  ·exfalso
   obtain⟨b,t,e2⟩:=List.exists_cons_of_ne_nil e
   rw[e2,List.all_cons] at h;have h1:cs.contains b=true:=by simp only[Bool.and_eq_true] at h;exact h.1
   have h2:=List.head_dropWhile_not (fun x=>cs.contains x) (l:=l.reverse) e;simp only[e2,List.head_cons] at h2;rw[h1] at h2
   cases h2
 ·intro h;rw[<-List.all_reverse,<-Zbv] at h;rw[h];rfl
theorem Zmt(b:UInt8):ZkF.contains b=(decide (65<=b.toNat)&&decide (b.toNat<=90)):=by
 have h:∀n,n<256->ZkF.contains (UInt8.ofNat n)=(decide (65<=n)&&decide (n<=90)):=by decide+kernel
 have:=h b.toNat b.toNat_lt
 rwa [UInt8.ofNat_toNat] at this
theorem Zi0(s:List UInt8):Zbr s=(s.length==3&&(Lib.trimS s ZkF==[])):=by
 unfold Zbr;rw[ZkG]
 congr 2
 funext b
 exact(Zmt b).symm
theorem Zds(s:List UInt8)(hs:s.length<=1000000):Xh 194 #[S s] (.bool (Zbr s)):=by
 intro w hp;have H:=jq (Kp.start hp);have HT:=jq (fun W=>Any.strings_Trim_laid Tryz.lays160 (by kernel_rfl) ⟨s.toArray⟩ ⟨#[65,66,67,68,69,70,71,72,73,74,75,76,77,78,79,80,81,82,83,84,85,86,87,88,89,90]⟩ W (by rw[QY];omega) (by decide) (ascii_of_all (by decide)));rw[show(⟨s.toArray⟩:ByteArray).data.toList=s from rfl,show(⟨#[65,66,67,68,69,70,71,72,73,74,75,76,77,78,79,80,81,82,83,84,85,86,87,88,89,90]⟩:ByteArray).data.toList=ZkF from rfl] at HT;have hsz:=QY s;rw[Zi0];clear hp
 by_cases h3:s.length=3
 ·have e3:((s.length:Int)==3)=true:=by rw[h3];rfl
  have e3':(s.length==3)=true:=by rw[h3];rfl
  rw[e3',Bool.true_and];clear h3 e3';generalize Lib.trimS s ZkF=t at*
  cases ht:(t==[])
  all_goals
   unfold S;go_enter Tryz.func194,Tryz.ntmps194
   go_wp2_with fail
   refine(HT.out _).mono ?_;rintro e w1 ⟨rfl,hb⟩;replace H:=jq (H.out.here hb);clear hb;go_wp2_with fail
   first|go_ret|skip
   exact⟨rfl,H.out.bl⟩
 ·have e3:((s.length:Int)==3)=false:=beq_false_of_ne (by omega);have e3':(s.length==3)=false:=beq_false_of_ne h3;rw[e3',Bool.false_and];clear h3 e3' HT;unfold S;go_enter Tryz.func194,Tryz.ntmps194
  go_wp2_with fail
  first|go_ret|skip
  exact⟨rfl,H.out.bl⟩
theorem Zi1(s:List UInt8)(hs:s.length<=1000000):Xh 222 #[S s] (.bool (idB s)):=by
 intro w hp;have H:=jq (Kp.start hp);have HC:=jq (Zgd s (by omega));have HB:=jq (Zka s);rw[HB.out,Zek]
 have hrl:(JQ s).length<=s.length:=by
  unfold JQ;rw[List.length_drop];have:=(List.dropWhile_suffix (fun x:UInt8=>x !=47) (l:=s)).length_le
  omega
 have HNM:=jq (XB (Vg s));generalize Vg s=a at*;generalize JQ s=r at*;generalize decide (47∈s)=bb at*;generalize Qk a=nb at*;have hrs:=QY r;clear HB
 rcases ha:Lib.atoiAll r with v|_|_
 ·have HA:=jq (fun W=>(Tryz.strconv_Atoi_ok ⟨r.toArray⟩ (by rw[hrs];omega) v ha W).mono (R':=fun(e:Ending) (w':World)=>e=Ending.returned (.tuple #[.int .i64 v,.nilIface])/\Below W.1.size W w') (by
   rintro e w' ⟨he,rfl|⟨t,rfl⟩⟩
   ·exact⟨he,Below.refl _ _⟩
   ·exact⟨he,Lib.bytesWorld_below _ _ _⟩))
  obtain⟨v1,v2⟩:=Lib.atoiAll_bounds ha
  have HI:=jq (fun W (hp:Env W)=>Zdr v v1 v2 W hp.pow);clear ha hs hrl hrs hp;simp only;generalize Lib.itoa v=iv at*
  cases nb with
  |false=>
   rw[Bool.and_false];clear HI;unfold S at*
   go_enter Tryz.func222,Tryz.ntmps222
   go_wp2_with fail
   refine(HC.out _ H.out.pw).mono ?_;rintro e w1 ⟨rfl,hb⟩;replace H:=jq (H.out.here hb);clear hb;go_wp2_with fail
   refine(HA.out _).mono ?_;rintro e w2 ⟨rfl,hb⟩;replace H:=jq (H.out.here hb);clear hb;go_wp2_with fail
   refine(HNM.out _ H.out.pw).mono ?_;rintro e w3 ⟨rfl,hb⟩;replace H:=jq (H.out.here hb);clear hb;go_wp2_with fail
   first|go_ret|skip
   exact⟨rfl,H.out.bl⟩
  |true=>
   rw[Bool.and_true]
   by_cases h1:1<=v
   ·by_cases h2:v<=9999
    ·rw[decide_eq_true h1,decide_eq_true h2,Bool.true_and,Bool.true_and]
     cases h3:(iv==r)
     all_goals
      unfold S at*
      go_enter Tryz.func222,Tryz.ntmps222
      go_wp2_with fail
      refine(HC.out _ H.out.pw).mono ?_;rintro e w1 ⟨rfl,hb⟩;replace H:=jq (H.out.here hb);clear hb;go_wp2_with fail
      refine(HA.out _).mono ?_;rintro e w2 ⟨rfl,hb⟩;replace H:=jq (H.out.here hb);clear hb;go_wp2_with fail
      refine(HNM.out _ H.out.pw).mono ?_;rintro e w3 ⟨rfl,hb⟩;replace H:=jq (H.out.here hb);clear hb;go_wp2_with fail
      refine(HI.out _ H.out.pw).mono ?_;rintro e w4 ⟨rfl,hb⟩;replace H:=jq (H.out.here hb);clear hb;go_wp2_with fail
      first|go_ret|skip
      exact⟨rfl,H.out.bl⟩
    ·rw[decide_eq_true h1,decide_eq_false h2,Bool.true_and,Bool.false_and];unfold S at*
     go_enter Tryz.func222,Tryz.ntmps222
     go_wp2_with fail
     refine(HC.out _ H.out.pw).mono ?_;rintro e w1 ⟨rfl,hb⟩;replace H:=jq (H.out.here hb);clear hb;go_wp2_with fail
     refine(HA.out _).mono ?_;rintro e w2 ⟨rfl,hb⟩;replace H:=jq (H.out.here hb);clear hb;go_wp2_with fail
     refine(HNM.out _ H.out.pw).mono ?_;rintro e w3 ⟨rfl,hb⟩;replace H:=jq (H.out.here hb);clear hb;go_wp2_with fail
     first|go_ret|skip
     exact⟨rfl,H.out.bl⟩
   ·rw[decide_eq_false h1,Bool.false_and];unfold S at*
    go_enter Tryz.func222,Tryz.ntmps222
    go_wp2_with fail
    refine(HC.out _ H.out.pw).mono ?_;rintro e w1 ⟨rfl,hb⟩;replace H:=jq (H.out.here hb);clear hb;go_wp2_with fail
    refine(HA.out _).mono ?_;rintro e w2 ⟨rfl,hb⟩;replace H:=jq (H.out.here hb);clear hb;go_wp2_with fail
    refine(HNM.out _ H.out.pw).mono ?_;rintro e w3 ⟨rfl,hb⟩;replace H:=jq (H.out.here hb);clear hb;go_wp2_with fail
    first|go_ret|skip
    exact⟨rfl,H.out.bl⟩
 ·have HA:=jq (fun W (hp:Env W)=>let⟨tp,p,hv⟩:=hp.syn;(Tryz.strconv_Atoi_syntax_var ⟨r.toArray⟩ (by rw[hrs];omega) ha tp p W hv).mono (R':=fun(e:Ending) (w':World)=>∃(N:Nat) (tt:TypeId),e=Ending.returned (.tuple #[.int .i64 0,.iface tt (.pointer (some ⟨N,0,none⟩))])/\Below W.1.size W w') (by
   rintro e w' ⟨N,he,_,_,hb⟩;exact⟨N,_,he,hb⟩))
  clear ha hs hrl hrs hp;rw[Bool.false_and]
  cases nb
  all_goals
   unfold S at*
   go_enter Tryz.func222,Tryz.ntmps222
   go_wp2_with fail
   refine(HC.out _ H.out.pw).mono ?_;rintro e w1 ⟨rfl,hb⟩;replace H:=jq (H.out.here hb);clear hb;go_wp2_with fail
   refine(HA.out _ H.out.pw).mono ?_;rintro e w2 ⟨N,tt,rfl,hb⟩;replace H:=jq (H.out.here hb);clear hb;go_wp2_with fail
   refine(HNM.out _ H.out.pw).mono ?_;rintro e w3 ⟨rfl,hb⟩;replace H:=jq (H.out.here hb);clear hb;go_wp2_with fail
   first|go_ret|skip
   exact⟨rfl,H.out.bl⟩
 ·have HA:=jq (fun W (hp:Env W)=>let⟨tp,p,hv⟩:=hp.rng;(Tryz.strconv_Atoi_range_var ⟨r.toArray⟩ (by rw[hrs];omega) ha tp p W hv).mono (R':=fun(e:Ending) (w':World)=>∃(z:Int) (N:Nat) (tt:TypeId),e=Ending.returned (.tuple #[.int .i64 z,.iface tt (.pointer (some ⟨N,0,none⟩))])/\Below W.1.size W w') (by
   rintro e w' ⟨N,he,_,_,hb⟩;exact⟨_,N,_,he,hb⟩))
  clear ha hs hrl hrs hp;rw[Bool.false_and]
  cases nb
  all_goals
   unfold S at*
   go_enter Tryz.func222,Tryz.ntmps222
   go_wp2_with fail
   refine(HC.out _ H.out.pw).mono ?_;rintro e w1 ⟨rfl,hb⟩;replace H:=jq (H.out.here hb);clear hb;go_wp2_with fail
   refine(HA.out _ H.out.pw).mono ?_;rintro e w2 ⟨z,N,tt,rfl,hb⟩;replace H:=jq (H.out.here hb);clear hb;go_wp2_with fail
   refine(HNM.out _ H.out.pw).mono ?_;rintro e w3 ⟨rfl,hb⟩;replace H:=jq (H.out.here hb);clear hb;go_wp2_with fail
   first|go_ret|skip
   exact⟨rfl,H.out.bl⟩
end
end Go.Proofs.YtmamnnaiogidaaaGreatDoor
