/- Pr. -/
import Derived.Test.YtlhmkgmojgnaaaaGreatDoorQGX34
import Derived.Test.YtlhmkgmojgnaaaaGreatDoorQGX2
set_option maxRecDepth 20000
namespace Go.Proofs.YtlhmkgmojgnaaaaGreatDoor
open Go.Lib renaming hid→jq
section
open Go.RowKit Go.Shelf
def Zcs(a:List UInt8):List UInt8:=if Ym a=[] then[48] else Ym a
theorem Zdw(n:Nat):Zcs (Qa n)=if n=0 then[48] else QI n:=by
 have e:Ym (Qa n)=QI n:=by rw[Zbq,Qd];exact VU n
 unfold Zcs;rw[e]
 by_cases h:n=0
 ·subst h;rfl
 ·rw[if_neg h,if_neg];intro e;have:=ZcB n h
  rw[e] at this;simp at this
theorem ZbS(n:Nat)(h:n<100000000):(QI n).length<=9:=by
 have:=Qf (n:=(n:Int)) (L:=8) (by simpa using h)
 rw[VU] at this;omega
theorem ZfD(n:Nat)(h:n<100000000):Lib.parseIntB 64 (Zcs (Qa n))=.ok (n:Int):=by
 rw[Zdw]
 by_cases h0:n=0
 ·subst h0;decide+kernel
 rw[if_neg h0];have hd:=VT n;have hl:=ZbS n h;have hv:=Jp n;obtain⟨b,l,e,h1,h2⟩:=Vp n h0
 rw[e] at hd hl hv ⊢;have hb:Qw b=true:=by simp only[List.all_cons,Bool.and_eq_true] at hd;exact hd.1
 have hb2:=(Xf b).1 hb
 have hp:Lib.parseUintB 64 (b::l)=.ok n:=by
  unfold Lib.parseUintB;rw[if_neg (by simp),Zgc (b::l) 0 hd,hv]
  ·simp
  ·have:10^(b::l).length<=10^9:=Nat.pow_le_pow_right (by omega) hl
   omega
 unfold Lib.parseIntB;simp only;rw[if_neg (by omega),hp];simp only;rw[if_neg (by omega),if_neg (by omega),if_neg (by omega)]
theorem ZfE(a:List UInt8)(ha:a.length<=1000000000):Xo 130 #[S a] (S (Zcs a)):=by
 intro w hp;have HC:=jq (VD a w ha);have HP:=jq (show Zcs a=if Ym a=[] then[48] else Ym a from rfl);generalize Zcs a=res at*;generalize Ym a=t at*;clear ha hp;unfold S at*
 by_cases ht:t=[]
 ·subst ht;rw[if_pos rfl] at HP;go_enter Tryz.func130,Tryz.ntmps130
  go_wp2_with fail
  refine HC.out.mono ?_;rintro e w1 ⟨rfl,hb⟩;go_wp2_with fail
  first|go_ret|skip
  rw[HP.out];exact⟨rfl,hb⟩
 ·rw[if_neg ht] at HP;have hx:(t==[])=false:=beq_false_of_ne ht;clear ht;go_enter Tryz.func130,Tryz.ntmps130
  go_wp2_with fail
  refine HC.out.mono ?_;rintro e w1 ⟨rfl,hb⟩;go_wp2_with fail
  first|go_ret|skip
  rw[HP.out];exact⟨rfl,hb⟩
theorem ZfF(n:Nat)(h:n<100000000):Xo 99 #[S (Qa n)] (.tuple #[.int .i64 n,.bool true]):=by
 intro w hp;have hl:(Qa n).length<=9:=Qf (n:=(n:Int)) (L:=8) (by simpa using h);have HPR:=jq (ZfE (Qa n) (by omega))
 have hpl:(Zcs (Qa n)).length<=9:=by
  rw[Zdw]
  split
  ·simp
  ·exact ZbS n h
 have HPI:=jq (fun W=>(Tryz.strconv_ParseInt_10_at64_ok ⟨(Zcs (Qa n)).toArray⟩ (by rw[QB];omega) n (by rw[Zcy];exact ZfD n h) W));have H:=jq (Kp.start hp);generalize Zcs (Qa n)=t at*;generalize Qa (n:Int)=a at*;clear hp hl hpl h;unfold S at*
 go_enter Tryz.func99,Tryz.ntmps99
 go_wp2_with fail
 refine(HPR.out _ H.out.pw).mono ?_;rintro e w1 ⟨rfl,hb⟩;replace H:=jq (H.out.here hb);clear hb;go_wp2_with fail
 refine(HPI.out _).mono ?_;rintro e w2 ⟨rfl,hw⟩
 have hb:Below w1.1.size w1 w2:=by
  rcases hw with rfl|⟨t,rfl⟩
  ·exact Below.refl _ _
  ·exact Lib.bytesWorld_below w1 _ _
 replace H:=jq (H.out.here hb);clear hb hw;go_wp2_with fail
 first|go_ret2|skip
 exact⟨rfl,H.out.bl⟩
end
end Go.Proofs.YtlhmkgmojgnaaaaGreatDoor
