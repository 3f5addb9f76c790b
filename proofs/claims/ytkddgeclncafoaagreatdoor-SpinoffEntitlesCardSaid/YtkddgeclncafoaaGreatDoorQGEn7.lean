/- Pr. -/
import Derived.Test.YtkddgeclncafoaaGreatDoorQGEn36
import Derived.Test.YtkddgeclncafoaaGreatDoorQGEn41
import Derived.Test.YtkddgeclncafoaaGreatDoorQGEn1
set_option maxRecDepth 20000
namespace Go.Proofs.YtkddgeclncafoaaGreatDoor
open Go.Lib renaming hid→jq
section
open Go.RowKit Go.Shelf
def ZeK(a:List UInt8):List UInt8:=if VI a=[] then[48] else VI a
theorem ZfW(n:Nat):ZeK (Qa n)=if n=0 then[48] else QS n:=by
 have e:VI (Qa n)=QS n:=by rw[Zbr,Qc];exact VT n
 unfold ZeK;rw[e]
 by_cases h:n=0
 ·subst h;rfl
 ·rw[if_neg h,if_neg];intro e;have:=Zfk n h
  rw[e] at this;simp at this
theorem ZdT(n:Nat)(h:n<100000000):(QS n).length<=9:=by
 have:=Qg (n:=(n:Int)) (L:=8) (by simpa using h)
 rw[VT] at this;omega
theorem Zi1(n:Nat)(h:n<100000000):Lib.parseIntB 64 (ZeK (Qa n))=.ok (n:Int):=by
 rw[ZfW]
 by_cases h0:n=0
 ·subst h0;decide+kernel
 rw[if_neg h0];have hd:=JE n;have hl:=ZdT n h;have hv:=Zak n;obtain⟨b,l,e,h1,h2⟩:=Zai n h0
 rw[e] at hd hl hv ⊢;have hb:Qr b=true:=by simp only[List.all_cons,Bool.and_eq_true] at hd;exact hd.1
 have hb2:=(QE b).1 hb
 have hp:Lib.parseUintB 64 (b::l)=.ok n:=by
  unfold Lib.parseUintB;rw[if_neg (by simp),Zj6 (b::l) 0 hd,hv]
  ·simp
  ·have:10^(b::l).length<=10^9:=Nat.pow_le_pow_right (by omega) hl
   omega
 unfold Lib.parseIntB;simp only;rw[if_neg (by omega),hp];simp only;rw[if_neg (by omega),if_neg (by omega),if_neg (by omega)]
theorem Zi2(a:List UInt8)(ha:a.length<=1000000000):XB 218 #[S a] (S (ZeK a)):=by
 intro w hp;have HC:=jq (Zay a w ha);have HP:=jq (show ZeK a=if VI a=[] then[48] else VI a from rfl);generalize ZeK a=res at*;generalize VI a=t at*;clear ha hp;unfold S at*
 by_cases ht:t=[]
 ·subst ht;rw[if_pos rfl] at HP;go_enter Tryz.func218,Tryz.ntmps218
  go_wp2_with fail
  refine HC.out.mono ?_;rintro e w1 ⟨rfl,hb⟩;go_wp2_with fail
  first|go_ret|skip
  rw[HP.out];exact⟨rfl,hb⟩
 ·rw[if_neg ht] at HP;have hx:(t==[])=false:=beq_false_of_ne ht;clear ht;go_enter Tryz.func218,Tryz.ntmps218
  go_wp2_with fail
  refine HC.out.mono ?_;rintro e w1 ⟨rfl,hb⟩;go_wp2_with fail
  first|go_ret|skip
  rw[HP.out];exact⟨rfl,hb⟩
theorem Zi3(n:Nat)(h:n<100000000):XB 171 #[S (Qa n)] (.tuple #[.int .i64 n,.bool true]):=by
 intro w hp;have hl:(Qa n).length<=9:=Qg (n:=(n:Int)) (L:=8) (by simpa using h);have HPR:=jq (Zi2 (Qa n) (by omega))
 have hpl:(ZeK (Qa n)).length<=9:=by
  rw[ZfW]
  split
  ·simp
  ·exact ZdT n h
 have HPI:=jq (fun W=>(Tryz.strconv_ParseInt_10_at64_ok ⟨(ZeK (Qa n)).toArray⟩ (by rw[Qm];omega) n (by rw[Zfh];exact Zi1 n h) W));have H:=jq (Kp.start hp);generalize ZeK (Qa n)=t at*;generalize Qa (n:Int)=a at*;clear hp hl hpl h;unfold S at*
 go_enter Tryz.func171,Tryz.ntmps171
 go_wp2_with fail
 refine(HPR.out _ H.out.pw).mono ?_;rintro e w1 ⟨rfl,hb⟩;replace H:=jq (H.out.here hb);clear hb;go_wp2_with fail
 refine(HPI.out _).mono ?_;rintro e w2 ⟨rfl,hw⟩
 have hb:Below w1.1.size w1 w2:=by
  rcases hw with rfl|⟨t,rfl⟩
  ·exact Below.refl _ _
  ·exact Lib.bytesWorld_below w1 _ _
 replace H:=jq (H.out.here hb);clear hb hw;go_wp2_with fail
 first|go_ret2|skip
 exact⟨rfl,H.out.bl⟩
end
end Go.Proofs.YtkddgeclncafoaaGreatDoor
