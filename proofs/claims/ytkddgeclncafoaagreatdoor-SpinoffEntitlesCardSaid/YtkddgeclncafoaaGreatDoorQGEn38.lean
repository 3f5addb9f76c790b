/- Rq3. -/
import Derived.Test.YtkddgeclncafoaaGreatDoorQGEn13
import Derived.Test.YtkddgeclncafoaaGreatDoorQGEn39
set_option maxRecDepth 20000
set_option maxHeartbeats 1000000
namespace Go.Proofs.YtkddgeclncafoaaGreatDoor
open Go.Lib renaming hid→jq
section
open Go.RowKit Go.Shelf
theorem Zac(a:List UInt8)(w:World)(ha:a.length<=100000000):Calls Tryz.prog 129 #[S a] w fun e w'=>e=.returned (.bool (decide (val a<0)))/\w=w':=by
 have HC:=jq (fun W=>QX a [] W ha (by simp));rw[Xr,Int.sub_zero] at HC;have HE:=jq (show decide (Qt (val a)<0)=decide (val a<0) by rw[Bool.eq_iff_iff,decide_eq_true_eq,decide_eq_true_eq];unfold Qt;(repeat' split)<;>omega);generalize Qt (val a)=z at*;generalize decide (val a<0)=bb at*;clear ha;unfold S at*
 go_enter Tryz.func129,Tryz.ntmps129
 go_wp2_with fail
 refine(HC.out _).mono ?_;rintro e w1 ⟨rfl,rfl⟩;go_wp2_with fail
 first|go_ret|skip
 exact⟨Qe HE.out,rfl⟩
theorem ZbQ(A:Option Addr)(n c:Nat)(ws:List (List UInt8))(w:World)(hs:Yu w w.1.size A n ws)(hl:∀x∈ws,x.length<=50000)(hn:n<=9999):
 Calls Tryz.prog 128 #[.slice A n c] w (Qo (Qa (Qz ws)) w):=by
 have HPO:=jq (show Qo (Qa (Qz ws)) w=fun e w'=>e=.returned (S (Qa (Qz ws)))/\Below w.1.size w w' from rfl);generalize Qo (Qa (Qz ws)) w=post at*;have HS:=jq hs;have HL:=jq hl;have H0:=jq (Below.refl w.1.size w);have hnw:=hs.1;have HNW:=jq hnw;clear hs hl hnw;unfold S at*
 go_enter Tryz.func128,Tryz.ntmps128
 go_wp2_with fail
 go_loopw [3,4] (fun s i wr=>∃k:Nat,k<=n/\i=.int .i64 k/\s=.string ⟨(Qa (Qz (ws.take k))).toArray⟩/\Hid (Below w.1.size w wr)) (fun _ i _=>n-(intOf i).toNat)
 case atStart=>exact⟨0,Nat.zero_le _,rfl,rfl,H0⟩
 case round=>
  clear H0;obtain⟨k,hk,rfl,rfl,H⟩:=hrel
  by_cases hlt:k<n
  ·obtain⟨b,off,x,rfl,hb,hx,d0⟩:=(HS.out.below H.out).st hlt
   have HA:=jq (Yi (Qa (Qz (ws.take k))) x wr (by have:=VM HL.out (by rw[<-HNW.out];omega) k;omega) (by have:=HL.out x (List.mem_of_getElem? hx);omega));rw[Qc,<-ZdH hx] at HA;clear hx;unfold S at HA;go_wp2_with fail
   refine HA.out.mono ?_;rintro e w1 ⟨rfl,hb1⟩
   try unfold S
   go_wp2_with fail
   go_roundw
   case rel=>exact⟨k+1,by omega,by go_num,rfl,H.out.trans (hb1.mono H.out.size)⟩
   case measure=>simp[intOf];omega
  ·have HE:=jq (show Qa (Qz (ws.take k))=Qa (Qz ws) by rw[List.take_of_length_le (by have:=HNW.out;omega)]);rw[HE.out];go_wp2_with fail
   first|go_ret|skip
   rw[HPO.out];exact⟨rfl,H.out⟩
theorem Zgu(t:List UInt8)(A:Option Addr)(n c:Nat)(ws:List (List UInt8))(w:World)(hs:Yu w w.1.size A n ws)(ht:t.length<=100000)(hl:∀x∈ws,x.length<=50000)(hn:n<=1000000000):
 Calls Tryz.prog 174 #[S t,.slice A n c] w (Qn (QN t ws) w):=by
 have HPO:=jq (show Qn (QN t ws) w=fun e w'=>e=.returned (.int .i64 (QN t ws))/\Below w.1.size w w' from rfl);have HSC:=jq (show QN t ws=if ws=[] then 11 else if 1000<ws.length then 4 else if QH t=false\/ws.any (fun x=> !QH x||decide (val x<0))=true then 1 else if Qz ws=0 then 10 else 0 from rfl);generalize Qn (QN t ws) w=post at*;generalize QN t ws=res at*;have HS:=jq hs;have HL:=jq hl;have H0:=jq (Below.refl w.1.size w);have hnw:=hs.1;have HC:=jq (fun W=>XV t W (by omega));have HCX:=jq (fun x (hx:x∈ws) W=>XV x W (by have:=hl x hx;omega));have HNX:=jq (fun x (hx:x∈ws) W=>Zac x W (by have:=hl x hx;omega));have HNW:=jq hnw;clear hs hl ht;unfold S at*
 rcases Nat.eq_zero_or_pos n with h0|h0
 ·subst h0;rw[if_pos (List.eq_nil_of_length_eq_zero hnw.symm)] at HSC;clear hnw hn;go_enter Tryz.func174,Tryz.ntmps174
  go_wp2_with fail
  first|go_ret|skip
  rw[HPO.out,HSC.out];exact⟨rfl,H0.out⟩
 rw[if_neg (fun e=>by rw[e] at hnw;simp at hnw;omega),<-hnw] at HSC;have hn0:((n:Int)==0)=false:=by simp;omega
 by_cases h1:1000<n
 ·rw[if_pos h1] at HSC;clear hnw;go_enter Tryz.func174,Tryz.ntmps174
  go_wp2_with fail
  first|go_ret|skip
  rw[HPO.out,HSC.out];exact⟨rfl,H0.out⟩
 rw[if_neg h1] at HSC;have hn1:¬1000<n:=h1;have HW:=jq (fun W (hb:Below w.1.size w W)=>ZbQ A n c ws W (HS.out.here hb) HL.out (by omega))
 have HE:=jq (show(Qa (Qz ws)==[])=decide (Qz ws=0) by
  rw[Bool.eq_iff_iff];simp only[beq_iff_eq,decide_eq_true_eq];exact VW)
 clear hnw h1;generalize QH t=ct at*
 cases ct with
 |false=>
  rw[if_pos (.inl rfl)] at HSC;clear HW HE HCX HNX;go_enter Tryz.func174,Tryz.ntmps174
  go_wp2_with fail
  refine(HC.out _).mono ?_;rintro e w1 ⟨rfl,rfl⟩;go_wp2_with fail
  first|go_ret|skip
  rw[HPO.out,HSC.out];exact⟨rfl,H0.out⟩
 |true=>
  rw[if_pos rfl] at HC;go_enter Tryz.func174,Tryz.ntmps174
  go_wp2_with fail
  refine(HC.out _).mono ?_;rintro e w1 ⟨rfl,rfl⟩;go_wp2_with fail
  go_loopw [5] (fun i wr=>∃k:Nat,k<=n/\i=.int .i64 k/\Hid ((ws.take k).any (fun x=> !QH x||decide (val x<0))=false)/\Hid (Below w.1.size w wr)) (fun i _=>n-(intOf i).toNat)
  case atStart=>exact⟨0,Nat.zero_le _,rfl,by show _=_;simp,H0⟩
  case round=>
   clear H0;obtain⟨k,hk,rfl,HAN,H⟩:=hrel
   by_cases hlt:k<n
   ·obtain⟨b,off,x,rfl,hb,hx,d0⟩:=(HS.out.below H.out).st hlt
    have hxm:=List.mem_of_getElem? hx;have HC1:=jq (HCX.out x hxm);have HN1:=jq (HNX.out x hxm);have HX:=jq hx;clear hx hxm
    cases hcx:QH x with
    |false=>
     rw[hcx,if_neg (by decide)] at HC1;rw[if_pos (.inr (List.any_eq_true.2 ⟨x,List.mem_of_getElem? HX.out,by rw[hcx];rfl⟩))] at HSC;clear hcx;go_wp2_with fail
     refine(HC1.out _).mono ?_;rintro e w1 ⟨rfl,rfl⟩;go_wp2_with fail
     first|go_ret|skip
     rw[HPO.out,HSC.out];exact⟨rfl,H.out⟩
    |true=>
     rw[hcx,if_pos rfl] at HC1
     cases hng:decide (val x<0) with
     |true=>
      rw[hng] at HN1;rw[if_pos (.inr (List.any_eq_true.2 ⟨x,List.mem_of_getElem? HX.out,by rw[hng,hcx];rfl⟩))] at HSC;clear hcx hng;go_wp2_with fail
      refine(HC1.out _).mono ?_;rintro e w1 ⟨rfl,rfl⟩;go_wp2_with fail
      refine(HN1.out _).mono ?_;rintro e w1 ⟨rfl,rfl⟩;go_wp2_with fail
      first|go_ret|skip
      rw[HPO.out,HSC.out];exact⟨rfl,H.out⟩
     |false=>
      rw[hng] at HN1;have HAN2:=jq (VR HX.out HAN.out (by rw[hng,hcx];rfl));clear hcx hng;go_wp2_with fail
      refine(HC1.out _).mono ?_;rintro e w1 ⟨rfl,rfl⟩;go_wp2_with fail
      refine(HN1.out _).mono ?_;rintro e w1 ⟨rfl,rfl⟩;go_wp2_with fail
      go_roundw
      case rel=>exact⟨k+1,by omega,by go_num,HAN2.out,H.out⟩
      case measure=>simp[intOf];omega
   ·have HAA:=jq (show ws.any (fun x=> !QH x||decide (val x<0))=false by
     have:=HAN.out
     rwa [List.take_of_length_le (by have:=HNW.out;omega)] at this)
    rw[if_neg (fun h=>h.elim (fun h=>by cases h) (fun h=>by rw[HAA.out] at h;cases h))] at HSC;clear HCX HNX;generalize Qa (Qz ws)=tw at*;generalize hz:decide (Qz ws=0)=zz at*;have HZ:=jq hz;clear hz
    cases zz with
    |true=>
     rw[if_pos (by have:=HZ.out;simpa using this)] at HSC;have hx:(tw==[])=true:=HE.out
     have hx2:tw.isEmpty=true:=by cases tw<;>simp_all
     clear HE HZ;go_wp2_with fail
     refine(HW.out _ H.out).mono ?_;rintro e w3 ⟨rfl,hb⟩
     try unfold S
     go_wp2_with fail
     first|go_ret|skip
     rw[HPO.out,HSC.out];exact⟨rfl,H.out.trans (hb.mono H.out.size)⟩
    |false=>
     rw[if_neg (by have:=HZ.out;simpa using this)] at HSC;have hx:(tw==[])=false:=HE.out
     have hx2:tw.isEmpty=false:=by cases tw<;>simp_all
     clear HE HZ;go_wp2_with fail
     refine(HW.out _ H.out).mono ?_;rintro e w3 ⟨rfl,hb⟩
     try unfold S
     go_wp2_with fail
     first|go_ret|skip
     rw[HPO.out,HSC.out];exact⟨rfl,H.out.trans (hb.mono H.out.size)⟩
end
end Go.Proofs.YtkddgeclncafoaaGreatDoor
