/- Fa1. -/
import Derived.Test.YtokjnjdbnabchaaGreatDoorQGEp16
import Derived.Test.YtokjnjdbnabchaaGreatDoorQGEp31
set_option maxRecDepth 20000
set_option maxHeartbeats 1000000
namespace Go.Proofs.YtokjnjdbnabchaaGreatDoor
open Go.Lib renaming hid→jq
section
open Go.RowKit Go.Shelf
def ZfU:List UInt8:=[65,66,67,68,69,70,71,72,73,74,75,76,77,78,79,80,81,82,83,84,85,86,87,88,89,90]
theorem VC{p:UInt8->Bool}:∀l:List UInt8,l.dropWhile p=[]↔l.all p=true
 |[]=>by simp
 |b::l=>by
  rw[List.dropWhile_cons,List.all_cons]
  cases h:p b
  ·simp
  ·simp[VC l]
theorem ZfV(l cs:List UInt8):(Lib.trimS l cs==[])=l.all (cs.contains ·):=by
 rw[Bool.eq_iff_iff,beq_iff_eq];unfold Lib.trimS Lib.trimLeftS Lib.trimRightS;rw[VC,List.all_reverse]
 constructor
 ·intro h
  by_cases e:l.reverse.dropWhile (cs.contains ·)=[]
  ·rw[VC,List.all_reverse] at e;exact e
  ·exfalso
   obtain⟨b,t,e2⟩:=List.exists_cons_of_ne_nil e
   rw[e2,List.all_cons] at h;have h1:cs.contains b=true:=by simp only[Bool.and_eq_true] at h;exact h.1
   have h2:=List.head_dropWhile_not (fun x=>cs.contains x) (l:=l.reverse) e;simp only[e2,List.head_cons] at h2;rw[h1] at h2
   cases h2
 ·intro h;rw[<-List.all_reverse,<-VC] at h;rw[h];rfl
theorem Zhs(b:UInt8):ZfU.contains b=(decide (65<=b.toNat)&&decide (b.toNat<=90)):=by
 have h:∀n,n<256->ZfU.contains (UInt8.ofNat n)=(decide (65<=n)&&decide (n<=90)):=by decide+kernel
 have:=h b.toNat b.toNat_lt
 rwa [UInt8.ofNat_toNat] at this
theorem ZeE(s:List UInt8):Qp s=(s.length==3&&(Lib.trimS s ZfU==[])):=by
 unfold Qp;rw[ZfV]
 congr 2
 funext b
 exact(Zhs b).symm
theorem Zaf(s:List UInt8)(hs:s.length<=1000000):Vd 207 #[S s] (.bool (Qp s)):=by
 intro w hp;have H:=jq (Kp.start hp);have HT:=jq (fun W=>Any.strings_Trim_laid Tryz.lays160 (by kernel_rfl) ⟨s.toArray⟩ ⟨#[65,66,67,68,69,70,71,72,73,74,75,76,77,78,79,80,81,82,83,84,85,86,87,88,89,90]⟩ W (by rw[Qw];omega) (by decide) (ascii_of_all (by decide)));rw[show(⟨s.toArray⟩:ByteArray).data.toList=s from rfl,show(⟨#[65,66,67,68,69,70,71,72,73,74,75,76,77,78,79,80,81,82,83,84,85,86,87,88,89,90]⟩:ByteArray).data.toList=ZfU from rfl] at HT;have hsz:=Qw s;rw[ZeE];clear hp
 by_cases h3:s.length=3
 ·have e3:((s.length:Int)==3)=true:=by rw[h3];rfl
  have e3':(s.length==3)=true:=by rw[h3];rfl
  rw[e3',Bool.true_and];clear h3 e3';generalize Lib.trimS s ZfU=t at*
  cases ht:(t==[])
  all_goals
   unfold S;go_enter Tryz.func207,Tryz.ntmps207
   go_wp2_with fail
   refine(HT.out _).mono ?_;rintro e w1 ⟨rfl,hb⟩;replace H:=jq (H.out.here hb);clear hb;go_wp2_with fail
   first|go_ret|skip
   exact⟨rfl,H.out.bl⟩
 ·have e3:((s.length:Int)==3)=false:=beq_false_of_ne (by omega);have e3':(s.length==3)=false:=beq_false_of_ne h3;rw[e3',Bool.false_and];clear h3 e3' HT;unfold S;go_enter Tryz.func207,Tryz.ntmps207
  go_wp2_with fail
  first|go_ret|skip
  exact⟨rfl,H.out.bl⟩
theorem ZeF(s:List UInt8)(hs:s.length<=1000000):Vd 269 #[S s] (.bool (idB s)):=by
 intro w hp;have H:=jq (Kp.start hp);have HC:=jq (ZfT s (by omega));have HB:=jq (Zib s);rw[HB.out,Zep]
 have hrl:(Vm s).length<=s.length:=by
  unfold Vm;rw[List.length_drop];have:=(List.dropWhile_suffix (fun x:UInt8=>x !=47) (l:=s)).length_le
  omega
 have HNM:=jq (VB (XL s));generalize XL s=a at*;generalize Vm s=r at*;generalize decide (47∈s)=bb at*;generalize Qv a=nb at*;have hrs:=Qw r;clear HB
 rcases ha:Lib.atoiAll r with v|_|_
 ·have HA:=jq (fun W=>(Tryz.strconv_Atoi_ok ⟨r.toArray⟩ (by rw[hrs];omega) v ha W).mono (R':=fun(e:Ending) (w':World)=>e=Ending.returned (.tuple #[.int .i64 v,.nilIface])/\Below W.1.size W w') (by
   rintro e w' ⟨he,rfl|⟨t,rfl⟩⟩
   ·exact⟨he,Below.refl _ _⟩
   ·exact⟨he,Lib.bytesWorld_below _ _ _⟩))
  obtain⟨v1,v2⟩:=Lib.atoiAll_bounds ha
  have HI:=jq (fun W (hp:Env W)=>ZfS v v1 v2 W hp.pow);clear ha hs hrl hrs hp;simp only;generalize Lib.itoa v=iv at*
  cases nb with
  |false=>
   rw[Bool.and_false];clear HI;unfold S at*
   go_enter Tryz.func269,Tryz.ntmps269
   go_wp2_with fail
   refine(HC.out _ H.out.pw).mono ?_;rintro e w1 ⟨rfl,hb⟩;replace H:=jq (H.out.here hb);clear hb;go_wp2_with fail
   refine(HA.out _).mono ?_;rintro e w2 ⟨rfl,hb⟩;replace H:=jq (H.out.here hb);clear hb;go_wp2_with fail
   refine(HNM.out _ H.out.pw).mono ?_;rintro e w3 ⟨rfl,hb⟩;replace H:=jq (H.out.here hb);clear hb;go_wp2_with fail
   first|go_ret|skip
   exact⟨rfl,H.out.bl⟩
  |true=>
   rw[Bool.and_true]
   by_cases h1:1<=v
   ·by_cases h2:v<=9999
    ·rw[decide_eq_true h1,decide_eq_true h2,Bool.true_and,Bool.true_and]
     cases h3:(iv==r)
     all_goals
      unfold S at*
      go_enter Tryz.func269,Tryz.ntmps269
      go_wp2_with fail
      refine(HC.out _ H.out.pw).mono ?_;rintro e w1 ⟨rfl,hb⟩;replace H:=jq (H.out.here hb);clear hb;go_wp2_with fail
      refine(HA.out _).mono ?_;rintro e w2 ⟨rfl,hb⟩;replace H:=jq (H.out.here hb);clear hb;go_wp2_with fail
      refine(HNM.out _ H.out.pw).mono ?_;rintro e w3 ⟨rfl,hb⟩;replace H:=jq (H.out.here hb);clear hb;go_wp2_with fail
      refine(HI.out _ H.out.pw).mono ?_;rintro e w4 ⟨rfl,hb⟩;replace H:=jq (H.out.here hb);clear hb;go_wp2_with fail
      first|go_ret|skip
      exact⟨rfl,H.out.bl⟩
    ·rw[decide_eq_true h1,decide_eq_false h2,Bool.true_and,Bool.false_and];unfold S at*
     go_enter Tryz.func269,Tryz.ntmps269
     go_wp2_with fail
     refine(HC.out _ H.out.pw).mono ?_;rintro e w1 ⟨rfl,hb⟩;replace H:=jq (H.out.here hb);clear hb;go_wp2_with fail
     refine(HA.out _).mono ?_;rintro e w2 ⟨rfl,hb⟩;replace H:=jq (H.out.here hb);clear hb;go_wp2_with fail
     refine(HNM.out _ H.out.pw).mono ?_;rintro e w3 ⟨rfl,hb⟩;replace H:=jq (H.out.here hb);clear hb;go_wp2_with fail
     first|go_ret|skip
     exact⟨rfl,H.out.bl⟩
   ·rw[decide_eq_false h1,Bool.false_and];unfold S at*
    go_enter Tryz.func269,Tryz.ntmps269
    go_wp2_with fail
    refine(HC.out _ H.out.pw).mono ?_;rintro e w1 ⟨rfl,hb⟩;replace H:=jq (H.out.here hb);clear hb;go_wp2_with fail
    refine(HA.out _).mono ?_;rintro e w2 ⟨rfl,hb⟩;replace H:=jq (H.out.here hb);clear hb;go_wp2_with fail
    refine(HNM.out _ H.out.pw).mono ?_;rintro e w3 ⟨rfl,hb⟩;replace H:=jq (H.out.here hb);clear hb;go_wp2_with fail
    first|go_ret|skip
    exact⟨rfl,H.out.bl⟩
 ·have HA:=jq (fun W (hp:Env W)=>let⟨tp,p,hv⟩:=hp.syn;(Tryz.strconv_Atoi_syntax_var ⟨r.toArray⟩ (by rw[hrs];omega) ha tp p W hv).mono (R':=fun(e:Ending) (w':World)=>∃(N:Nat) (tt:TypeId),e=Ending.returned (.tuple #[.int .i64 0,.iface tt (.pointer (some ⟨N,0,none⟩))])/\Below W.1.size W w') (by
   rintro e w' ⟨N,he,_,_,hb⟩;exact⟨N,_,he,hb⟩))
  clear ha hs hrl hrs hp;rw[Bool.false_and]
  cases nb
  all_goals
   unfold S at*
   go_enter Tryz.func269,Tryz.ntmps269
   go_wp2_with fail
   refine(HC.out _ H.out.pw).mono ?_;rintro e w1 ⟨rfl,hb⟩;replace H:=jq (H.out.here hb);clear hb;go_wp2_with fail
   refine(HA.out _ H.out.pw).mono ?_;rintro e w2 ⟨N,tt,rfl,hb⟩;replace H:=jq (H.out.here hb);clear hb;go_wp2_with fail
   refine(HNM.out _ H.out.pw).mono ?_;rintro e w3 ⟨rfl,hb⟩;replace H:=jq (H.out.here hb);clear hb;go_wp2_with fail
   first|go_ret|skip
   exact⟨rfl,H.out.bl⟩
 ·have HA:=jq (fun W (hp:Env W)=>let⟨tp,p,hv⟩:=hp.rng;(Tryz.strconv_Atoi_range_var ⟨r.toArray⟩ (by rw[hrs];omega) ha tp p W hv).mono (R':=fun(e:Ending) (w':World)=>∃(z:Int) (N:Nat) (tt:TypeId),e=Ending.returned (.tuple #[.int .i64 z,.iface tt (.pointer (some ⟨N,0,none⟩))])/\Below W.1.size W w') (by
   rintro e w' ⟨N,he,_,_,hb⟩;exact⟨_,N,_,he,hb⟩))
  clear ha hs hrl hrs hp;rw[Bool.false_and]
  cases nb
  all_goals
   unfold S at*
   go_enter Tryz.func269,Tryz.ntmps269
   go_wp2_with fail
   refine(HC.out _ H.out.pw).mono ?_;rintro e w1 ⟨rfl,hb⟩;replace H:=jq (H.out.here hb);clear hb;go_wp2_with fail
   refine(HA.out _ H.out.pw).mono ?_;rintro e w2 ⟨z,N,tt,rfl,hb⟩;replace H:=jq (H.out.here hb);clear hb;go_wp2_with fail
   refine(HNM.out _ H.out.pw).mono ?_;rintro e w3 ⟨rfl,hb⟩;replace H:=jq (H.out.here hb);clear hb;go_wp2_with fail
   first|go_ret|skip
   exact⟨rfl,H.out.bl⟩
end
end Go.Proofs.YtokjnjdbnabchaaGreatDoor
