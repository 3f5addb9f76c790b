/- Pr. -/
import Derived.Test.YtpnncoinlopndaaGreatDoorQGMp28
import Derived.Test.YtpnncoinlopndaaGreatDoorQGMp1
set_option maxRecDepth 20000
namespace Go.Proofs.YtpnncoinlopndaaGreatDoor
open Go.Lib renaming hid→jq
section
open Go.RowKit Go.Shelf
def Zbu(a:List UInt8):List UInt8:=if Yu a=[] then[48] else Yu a
theorem Zde(n:Nat):Zbu (Qa n)=if n=0 then[48] else QN n:=by
 have e:Yu (Qa n)=QN n:=by rw[ZaC,Qc];exact XU n
 unfold Zbu;rw[e]
 by_cases h:n=0
 ·subst h;rfl
 ·rw[if_neg h,if_neg];intro e;have:=ZcZ n h
  rw[e] at this;simp at this
theorem Zep(n:Nat)(h:n<100000000):(QN n).length<=9:=by
 have:=Qd (n:=(n:Int)) (L:=8) (by simpa using h)
 rw[XU] at this;omega
theorem ZiR(n:Nat)(h:n<100000000):Lib.parseIntB 64 (Zbu (Qa n))=.ok (n:Int):=by
 rw[Zde]
 by_cases h0:n=0
 ·subst h0;decide+kernel
 rw[if_neg h0];have hd:=Jk n;have hl:=Zep n h;have hv:=Vq n;obtain⟨b,l,e,h1,h2⟩:=Jl n h0
 rw[e] at hd hl hv ⊢;have hb:Qx b=true:=by simp only[List.all_cons,Bool.and_eq_true] at hd;exact hd.1
 have hb2:=(QM b).1 hb
 have hp:Lib.parseUintB 64 (b::l)=.ok n:=by
  unfold Lib.parseUintB;rw[if_neg (by simp),ZjH (b::l) 0 hd,hv]
  ·simp
  ·have:10^(b::l).length<=10^9:=Nat.pow_le_pow_right (by omega) hl
   omega
 unfold Lib.parseIntB;simp only;rw[if_neg (by omega),hp];simp only;rw[if_neg (by omega),if_neg (by omega),if_neg (by omega)]
theorem Zeq(a:List UInt8)(ha:a.length<=1000000000):Xb 129 #[S a] (S (Zbu a)):=by
 intro w hp;have HC:=jq (Ja a w ha);have HP:=jq (show Zbu a=if Yu a=[] then[48] else Yu a from rfl);generalize Zbu a=res at*;generalize Yu a=t at*;clear ha hp;unfold S at*
 by_cases ht:t=[]
 ·subst ht;rw[if_pos rfl] at HP;go_enter Tryz.func129,Tryz.ntmps129
  go_wp2_with fail
  refine HC.out.mono ?_;rintro e w1 ⟨rfl,hb⟩;go_wp2_with fail
  first|go_ret|skip
  rw[HP.out];exact⟨rfl,hb⟩
 ·rw[if_neg ht] at HP;have hx:(t==[])=false:=beq_false_of_ne ht;clear ht;go_enter Tryz.func129,Tryz.ntmps129
  go_wp2_with fail
  refine HC.out.mono ?_;rintro e w1 ⟨rfl,hb⟩;go_wp2_with fail
  first|go_ret|skip
  rw[HP.out];exact⟨rfl,hb⟩
theorem ZiS(n:Nat)(h:n<100000000):Xb 243 #[S (Qa n)] (.tuple #[.int .i64 n,.bool true]):=by
 intro w hp;have hl:(Qa n).length<=9:=Qd (n:=(n:Int)) (L:=8) (by simpa using h);have HPR:=jq (Zeq (Qa n) (by omega))
 have hpl:(Zbu (Qa n)).length<=9:=by
  rw[Zde]
  split
  ·simp
  ·exact Zep n h
 have HPI:=jq (fun W=>(Tryz.strconv_ParseInt_10_at64_ok ⟨(Zbu (Qa n)).toArray⟩ (by rw[Qs];omega) n (by rw[Zfy];exact ZiR n h) W));have H:=jq (Kp.start hp);generalize Zbu (Qa n)=t at*;generalize Qa (n:Int)=a at*;clear hp hl hpl h;unfold S at*
 go_enter Tryz.func243,Tryz.ntmps243
 go_wp2_with fail
 refine(HPR.out _ H.out.pw).mono ?_;rintro e w1 ⟨rfl,hb⟩;replace H:=jq (H.out.here hb);clear hb;go_wp2_with fail
 refine(HPI.out _).mono ?_;rintro e w2 ⟨rfl,hw⟩
 have hb:Below w1.1.size w1 w2:=by
  rcases hw with rfl|⟨t,rfl⟩
  ·exact Below.refl _ _
  ·exact Lib.bytesWorld_below w1 _ _
 replace H:=jq (H.out.here hb);clear hb hw;go_wp2_with fail
 first|go_ret2|skip
 exact⟨rfl,H.out.bl⟩
end
end Go.Proofs.YtpnncoinlopndaaGreatDoor
