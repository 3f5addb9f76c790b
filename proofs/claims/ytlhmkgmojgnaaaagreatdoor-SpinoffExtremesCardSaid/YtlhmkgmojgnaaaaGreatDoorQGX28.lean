/- AL1. -/
import Derived.Test.YtlhmkgmojgnaaaaGreatDoorQGX27
import Derived.Test.YtlhmkgmojgnaaaaGreatDoorQGX1
set_option maxRecDepth 20000
set_option maxHeartbeats 1000000
namespace Go.Proofs.YtlhmkgmojgnaaaaGreatDoor
open Go.Lib renaming hid→jq
section
open Go.RowKit Go.Shelf
theorem VF(a:List UInt8)(ha:a.length<=100000):Xo 70 #[S a] (.bool (decide (val a<0))):=by
 intro w hp;have HC:=jq (Qy a [] w ha (by simp));rw[Yg,Int.sub_zero] at HC;have HE:=jq (show decide (QC (val a)<0)=decide (val a<0) by rw[Bool.eq_iff_iff,decide_eq_true_eq,decide_eq_true_eq];unfold QC;(repeat' split)<;>omega);generalize QC (val a)=z at*;generalize decide (val a<0)=bb at*;clear ha hp;unfold S at*
 go_enter Tryz.func70,Tryz.ntmps70
 go_wp2_with fail
 refine HC.out.mono ?_;rintro e w1 ⟨rfl,hb⟩;go_wp2_with fail
 first|go_ret|skip
 exact⟨Qe HE.out,hb⟩
theorem ZaY(A:Option Addr)(n c:Nat)(ws:List (List UInt8))(w:World)(hp:Env w)(hs:VO w w.1.size A n ws)(hl:∀x∈ws,x.length<=50000)(hn:n<=9999):
 Calls Tryz.prog 71 #[.slice A n c] w (QH (Qa (QM ws)) w):=by
 have HPO:=jq (show QH (Qa (QM ws)) w=fun e w'=>e=.returned (S (Qa (QM ws)))/\Below w.1.size w w' from rfl);generalize QH (Qa (QM ws)) w=post at*;have HS:=jq hs;have HL:=jq hl;have H0:=jq (Kp.start hp);have hnw:=hs.1;have HNW:=jq hnw;clear hs hl hp hnw;unfold S at*
 go_enter Tryz.func71,Tryz.ntmps71
 go_wp2_with fail
 go_loopw [3,8] (fun s i wr=>∃k:Nat,k<=n/\i=.int .i64 k/\s=.string ⟨(Qa (QM (ws.take k))).toArray⟩/\Hid (Kp w [] wr)) (fun _ i _=>n-(intOf i).toNat)
 case atStart=>exact⟨0,Nat.zero_le _,rfl,rfl,H0⟩
 case round=>
  clear H0;obtain⟨k,hk,rfl,rfl,H⟩:=hrel
  by_cases hlt:k<n
  ·obtain⟨b,off,x,rfl,hb,hx,d0⟩:=(HS.out.below H.out.bl).st hlt
   have HA:=jq (Yk (Qa (QM (ws.take k))) x wr H.out.po (by have:=Zbg HL.out (by rw[<-HNW.out];omega) k;omega) (by have:=HL.out x (List.mem_of_getElem? hx);omega));rw[Qd,<-ZeX hx] at HA;clear hx;unfold S at HA;go_wp2_with fail
   refine HA.out.mono ?_;rintro e w1 ⟨rfl,hb1⟩
   try unfold S
   go_wp2_with fail
   go_roundw
   case rel=>exact⟨k+1,by omega,by go_num,rfl,H.out.here hb1⟩
   case measure=>simp[intOf];omega
  ·have HE:=jq (show Qa (QM (ws.take k))=Qa (QM ws) by rw[List.take_of_length_le (by have:=HNW.out;omega)]);rw[HE.out];go_wp2_with fail
   first|go_ret|skip
   rw[HPO.out];exact⟨rfl,H.out.bl⟩
def QE(t:List UInt8)(ws:List (List UInt8)):Int:=
 if ws=[] then 11 else if 1000<ws.length then 4 else if QU t=false\/ws.any (fun x=> !QU x||decide (val x<0))=true then 1 else if QM ws=0 then 10 else 0
theorem Zdm(a:List UInt8)(ha:a.length<=100000):Xo 69 #[S a] (.bool (!QU a||decide (val a<0))):=by
 intro w hp;have HC:=jq (XZ a (by omega));have HN:=jq (VF a ha);have H:=jq (Kp.start hp);generalize decide (val a<0)=bb at*;clear ha hp
 by_cases hc:a=Qa (val a)
 ·rw[if_pos hc] at HC;have HCB:=jq (show QU a=true by unfold QU;simpa using hc);rw[HCB.out];clear hc;unfold S at*
  go_enter Tryz.func69,Tryz.ntmps69
  go_wp2_with fail
  refine(HC.out _ H.out.pw).mono ?_;rintro e w1 ⟨rfl,hb⟩;replace H:=jq (H.out.here hb);clear hb;go_wp2_with fail
  refine(HN.out _ H.out.pw).mono ?_;rintro e w2 ⟨rfl,hb⟩;go_wp2_with fail
  first|go_ret|skip
  exact⟨rfl,(H.out.here hb).bl⟩
 ·rw[if_neg hc] at HC;have HCB:=jq (show QU a=false by unfold QU;simpa using hc);rw[HCB.out];clear hc;unfold S at*
  go_enter Tryz.func69,Tryz.ntmps69
  go_wp2_with fail
  refine(HC.out _ H.out.pw).mono ?_;rintro e w1 ⟨rfl,hb⟩;go_wp2_with fail
  first|go_ret|skip
  exact⟨rfl,(H.out.here hb).bl⟩
theorem ZaZ(t:List UInt8)(A:Option Addr)(n c:Nat)(ws:List (List UInt8))(w:World)(hp:Env w)(hs:VO w w.1.size A n ws)(ht:t.length<=100000)(hl:∀x∈ws,x.length<=50000)(hn:n<=1000000000):
 Calls Tryz.prog 41 #[S t,.slice A n c] w (Qt (QE t ws) w):=by
 have HPO:=jq (show Qt (QE t ws) w=fun e w'=>e=.returned (.int .i64 (QE t ws))/\Below w.1.size w w' from rfl);have HSC:=jq (show QE t ws=if ws=[] then 11 else if 1000<ws.length then 4 else if QU t=false\/ws.any (fun x=> !QU x||decide (val x<0))=true then 1 else if QM ws=0 then 10 else 0 from rfl);generalize Qt (QE t ws) w=post at*;generalize QE t ws=res at*;have HS:=jq hs;have HL:=jq hl;have H:=jq (Kp.start hp);have hnw:=hs.1;have HC:=jq (XZ t (by omega));have HCF:=jq (fun W (hb:Below w.1.size w W)=>ZaX 69 #[] (fun x=> !QU x||decide (val x<0)) A n c ws W (enters_of Tryz.func69 (by kernel_rfl) rfl) (fun W' x hx hb'=>Zdm x (by have:=hl x hx;omega) W' ((hp.here hb).here hb')) (hs.here hb) hn)
 have HCT:=jq (show(if t=Qa (val t) then(0:Int) else 1)=if QU t=true then 0 else 1 by
  unfold QU
  by_cases h:t=Qa (val t)
  ·rw[if_pos h,if_pos (decide_eq_true h)]
  ·rw[if_neg h,if_neg (by simpa using h)])
 rw[HCT.out] at HC;generalize QU t=ct at*;generalize ws.any (fun x=> !QU x||decide (val x<0))=an at*;have HNW:=jq hnw;clear hs hl hp ht HCT;unfold S at*
 rcases Nat.eq_zero_or_pos n with h0|h0
 ·subst h0;rw[if_pos (List.eq_nil_of_length_eq_zero hnw.symm)] at HSC;clear hnw hn;go_enter Tryz.func41,Tryz.ntmps41
  go_wp2_with fail
  first|go_ret|skip
  rw[HPO.out,HSC.out];exact⟨rfl,H.out.bl⟩
 rw[if_neg (fun e=>by rw[e] at hnw;simp at hnw;omega),<-hnw] at HSC;have hn0:((n:Int)==0)=false:=by simp;omega
 by_cases h1:1000<n
 ·rw[if_pos h1] at HSC;clear hnw;go_enter Tryz.func41,Tryz.ntmps41
  go_wp2_with fail
  first|go_ret|skip
  rw[HPO.out,HSC.out];exact⟨rfl,H.out.bl⟩
 rw[if_neg h1] at HSC;have hn1:¬1000<n:=h1;have HW:=jq (fun W (hb:Below w.1.size w W)=>ZaY A n c ws W (H.out.pow.here hb) (HS.out.here hb) HL.out (by omega))
 have HE:=jq (show(Qa (QM ws)==[])=decide (QM ws=0) by
  rw[Bool.eq_iff_iff];simp only[beq_iff_eq,decide_eq_true_eq];exact Zaq)
 clear hnw h1
 cases ct with
 |false=>
  rw[if_pos (.inl rfl)] at HSC;clear HCF HW HE;go_enter Tryz.func41,Tryz.ntmps41
  go_wp2_with fail
  refine(HC.out _ H.out.pw).mono ?_;rintro e w1 ⟨rfl,hb⟩;go_wp2_with fail
  first|go_ret|skip
  rw[HPO.out,HSC.out];exact⟨rfl,(H.out.here hb).bl⟩
 |true=>
  cases an with
  |true=>
   rw[if_pos (.inr rfl)] at HSC;clear HW HE;go_enter Tryz.func41,Tryz.ntmps41
   go_wp2_with fail
   refine(HC.out _ H.out.pw).mono ?_;rintro e w1 ⟨rfl,hb⟩;replace H:=jq (H.out.here hb);clear hb;go_wp2_with fail
   refine(HCF.out _ H.out.bl).mono ?_;rintro e w2 ⟨rfl,hb⟩;go_wp2_with fail
   first|go_ret|skip
   rw[HPO.out,HSC.out];exact⟨rfl,(H.out.here hb).bl⟩
  |false=>
   rw[if_neg (by simp)] at HSC;generalize Qa (QM ws)=tw at*;generalize hz:decide (QM ws=0)=zz at*;have HZ:=jq hz;clear hz
   cases zz with
   |true=>
    rw[if_pos (by have:=HZ.out;simpa using this)] at HSC;have hx:(tw==[])=true:=HE.out;clear HE HZ;go_enter Tryz.func41,Tryz.ntmps41
    go_wp2_with fail
    refine(HC.out _ H.out.pw).mono ?_;rintro e w1 ⟨rfl,hb⟩;replace H:=jq (H.out.here hb);clear hb;go_wp2_with fail
    refine(HCF.out _ H.out.bl).mono ?_;rintro e w2 ⟨rfl,hb⟩;replace H:=jq (H.out.here hb);clear hb;go_wp2_with fail
    refine(HW.out _ H.out.bl).mono ?_;rintro e w3 ⟨rfl,hb⟩
    try unfold S
    go_wp2_with fail
    first|go_ret|skip
    rw[HPO.out,HSC.out];exact⟨rfl,(H.out.here hb).bl⟩
   |false=>
    rw[if_neg (by have:=HZ.out;simpa using this)] at HSC;have hx:(tw==[])=false:=HE.out;clear HE HZ;go_enter Tryz.func41,Tryz.ntmps41
    go_wp2_with fail
    refine(HC.out _ H.out.pw).mono ?_;rintro e w1 ⟨rfl,hb⟩;replace H:=jq (H.out.here hb);clear hb;go_wp2_with fail
    refine(HCF.out _ H.out.bl).mono ?_;rintro e w2 ⟨rfl,hb⟩;replace H:=jq (H.out.here hb);clear hb;go_wp2_with fail
    refine(HW.out _ H.out.bl).mono ?_;rintro e w3 ⟨rfl,hb⟩
    try unfold S
    go_wp2_with fail
    first|go_ret|skip
    rw[HPO.out,HSC.out];exact⟨rfl,(H.out.here hb).bl⟩
end
end Go.Proofs.YtlhmkgmojgnaaaaGreatDoor
