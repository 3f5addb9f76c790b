/- Pr. -/
import Derived.Test.YtmamnnaiogidaaaGreatDoorQGU8
import Derived.Test.YtmamnnaiogidaaaGreatDoorQGU1
set_option maxRecDepth 20000
namespace Go.Proofs.YtmamnnaiogidaaaGreatDoor
open Go.Lib renaming hid→jq
section
open Go.RowKit Go.Shelf
def Zeb(a:List UInt8):List UInt8:=if Yn a=[] then[48] else Yn a
theorem ZdJ(n:Nat):Zeb (Qa n)=if n=0 then[48] else QS n:=by
 have e:Yn (Qa n)=QS n:=by rw[Zee,Qc];exact Jf n
 unfold Zeb;rw[e]
 by_cases h:n=0
 ·subst h;rfl
 ·rw[if_neg h,if_neg];intro e;have:=Zc1 n h
  rw[e] at this;simp at this
theorem ZeJ(n:Nat)(h:n<100000000):(QS n).length<=9:=by
 have:=Qd (n:=(n:Int)) (L:=8) (by simpa using h)
 rw[Jf] at this;omega
theorem Zjo(n:Nat)(h:n<100000000):Lib.parseIntB 64 (Zeb (Qa n))=.ok (n:Int):=by
 rw[ZdJ]
 by_cases h0:n=0
 ·subst h0;decide+kernel
 rw[if_neg h0];have hd:=JZ n;have hl:=ZeJ n h;have hv:=Jh n;obtain⟨b,l,e,h1,h2⟩:=Je n h0
 rw[e] at hd hl hv ⊢;have hb:QU b=true:=by simp only[List.all_cons,Bool.and_eq_true] at hd;exact hd.1
 have hb2:=(Yi b).1 hb
 have hp:Lib.parseUintB 64 (b::l)=.ok n:=by
  unfold Lib.parseUintB;rw[if_neg (by simp),Zkb (b::l) 0 hd,hv]
  ·simp
  ·have:10^(b::l).length<=10^9:=Nat.pow_le_pow_right (by omega) hl
   omega
 unfold Lib.parseIntB;simp only;rw[if_neg (by omega),hp];simp only;rw[if_neg (by omega),if_neg (by omega),if_neg (by omega)]
theorem ZeK(a:List UInt8)(ha:a.length<=1000000000):Xh 150 #[S a] (S (Zeb a)):=by
 intro w hp;have HC:=jq (VY a w ha);have HP:=jq (show Zeb a=if Yn a=[] then[48] else Yn a from rfl);generalize Zeb a=res at*;generalize Yn a=t at*;clear ha hp;unfold S at*
 by_cases ht:t=[]
 ·subst ht;rw[if_pos rfl] at HP;go_enter Tryz.func150,Tryz.ntmps150
  go_wp2_with fail
  refine HC.out.mono ?_;rintro e w1 ⟨rfl,hb⟩;go_wp2_with fail
  first|go_ret|skip
  rw[HP.out];exact⟨rfl,hb⟩
 ·rw[if_neg ht] at HP;have hx:(t==[])=false:=beq_false_of_ne ht;clear ht;go_enter Tryz.func150,Tryz.ntmps150
  go_wp2_with fail
  refine HC.out.mono ?_;rintro e w1 ⟨rfl,hb⟩;go_wp2_with fail
  first|go_ret|skip
  rw[HP.out];exact⟨rfl,hb⟩
theorem Zjp(n:Nat)(h:n<100000000):Xh 183 #[S (Qa n)] (.tuple #[.int .i64 n,.bool true]):=by
 intro w hp;have hl:(Qa n).length<=9:=Qd (n:=(n:Int)) (L:=8) (by simpa using h);have HPR:=jq (ZeK (Qa n) (by omega))
 have hpl:(Zeb (Qa n)).length<=9:=by
  rw[ZdJ]
  split
  ·simp
  ·exact ZeJ n h
 have HPI:=jq (fun W=>(Tryz.strconv_ParseInt_10_at64_ok ⟨(Zeb (Qa n)).toArray⟩ (by rw[QY];omega) n (by rw[ZfH];exact Zjo n h) W));have H:=jq (Kp.start hp);generalize Zeb (Qa n)=t at*;generalize Qa (n:Int)=a at*;clear hp hl hpl h;unfold S at*
 go_enter Tryz.func183,Tryz.ntmps183
 go_wp2_with fail
 refine(HPR.out _ H.out.pw).mono ?_;rintro e w1 ⟨rfl,hb⟩;replace H:=jq (H.out.here hb);clear hb;go_wp2_with fail
 refine(HPI.out _).mono ?_;rintro e w2 ⟨rfl,hw⟩
 have hb:Below w1.1.size w1 w2:=by
  rcases hw with rfl|⟨t,rfl⟩
  ·exact Below.refl _ _
  ·exact Lib.bytesWorld_below w1 _ _
 replace H:=jq (H.out.here hb);clear hb hw;go_wp2_with fail
 first|go_ret2|skip
 exact⟨rfl,H.out.bl⟩
end
end Go.Proofs.YtmamnnaiogidaaaGreatDoor
