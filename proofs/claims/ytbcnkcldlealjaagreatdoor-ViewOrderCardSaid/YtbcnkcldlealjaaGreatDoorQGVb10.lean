/- Vxi, Vgr. -/
import Derived.Test.YtbcnkcldlealjaaGreatDoorQGVb38
import Derived.Test.YtbcnkcldlealjaaGreatDoorQGVb8
set_option maxRecDepth 100000
set_option maxHeartbeats 4000000
namespace Go.Proofs.YtbcnkcldlealjaaGreatDoor
open Go.Lib renaming hid→jq
open Go.RowKit Go.Shelf
section
def FxI(W:World)(x:Fx):Prop:=FaM W W.1.size x.1 x.2/\x.2.pn<=maxLen/\x.2.on<=maxLen/\x.1.Max
def GrX(x:Fx):Prop:=x.1.Gs/\x.2.pn<=66/\x.2.on<=10/\(∀p∈x.1.picks,p.Sz 30)/\∀o∈x.1.options,o.Sz 24
theorem FxI.m{W:World}{x:Fx}(h:FxI W x)(hg:GrX x):FxM W W.1.size x:=
 ⟨h.1,Nat.le_trans hg.2.1 (by omega),Nat.le_trans hg.2.2.1 (by omega),hg.1.sz0 h.2.2.2 hg.2.2.2.1 hg.2.2.2.2⟩
theorem FxI.here{W W':World}{x:Fx}(h:FxI W x)(hb:Below W.1.size W W'):FxI W' x:=⟨h.1.here hb,h.2⟩
theorem Xo{W:World}{A:Option Addr}{n:Nat}{xs:List Fx}(h:Sl Qt 21 W W.1.size A n xs)(hi:∀x∈xs,FxI W x)(hg:∀x∈xs,GrX x):Fxs W W.1.size A n xs:=⟨h,fun x hx=>(hi x hx).m (hg x hx)⟩
theorem ZeM{W:World}{xs:List Fx}(hi:∀x∈xs,FxI W x):∀x∈xs,FaM W W.1.size x.1 x.2/\x.2.pn<=9223372036854775807/\x.2.on<=9223372036854775807:=by
 have hml:maxLen<=9223372036854775807:=by decide
 exact fun x hx=>⟨(hi x hx).1,Nat.le_trans (hi x hx).2.1 hml,Nat.le_trans (hi x hx).2.2.1 hml⟩
end
section
attribute [local go_sem] Oper.semAt_some
attribute [local go_sem ↓] Qq QA
def GvP(n:Nat)(xs:List Fx)(e:Ending):Prop:=∃b,e=.returned (.bool b)/\(b=false->n<=1002/\∀x∈xs,GrX x)
theorem Za7(A:Option Addr)(n c:Nat)(xs:List Fx)(w:World)(hp:Env w)(hs:Sl Qt 21 w w.1.size A n xs)(hm:∀x∈xs,FaM w w.1.size x.1 x.2/\x.2.pn<=9223372036854775807/\x.2.on<=9223372036854775807)(hn:n<=9223372036854775807):
 Calls Tryz.prog 11 #[.slice A n c] w fun e w'=>GvP n xs e/\Below w.1.size w w':=by
 have H:=jq (Kp.start hp);have HS:=jq hs;have HM:=jq hm;have HNW:=jq hs.1;clear hp hs hm
 by_cases h1:12<n/\n<=1000
 ·have i1:(12:Int)<(n:Int):=by omega
  have i2:(n:Int)<=1000:=by omega
  clear h1;go_enter Tryz.func11,Tryz.ntmps11
  go_wp2_with fail
  first|go_ret|skip
  exact⟨⟨true,rfl,fun h=>by cases h⟩,H.out.bl⟩
 by_cases h2:1002<n
 ·have i1:(12:Int)<(n:Int):=by omega
  have i2:¬(n:Int)<=1000:=by omega
  have i3:(1002:Int)<(n:Int):=by omega
  clear h1 h2;go_enter Tryz.func11,Tryz.ntmps11
  go_wp2_with fail
  first|go_ret|skip
  exact⟨⟨true,rfl,fun h=>by cases h⟩,H.out.bl⟩
 have HC:=jq (show n<=1002 by omega)
 have hc1:(decide ((12:Int)<(n:Int))&&decide ((n:Int)<=1000))=false:=by
  rw[Bool.and_eq_false_iff,decide_eq_false_iff_not,decide_eq_false_iff_not];omega
 have i3:¬(1002:Int)<(n:Int):=by omega
 have hsplit:(12<n/\¬(n:Int)<=1000)\/¬(12:Int)<(n:Int):=by omega
 clear h1 h2;go_enter Tryz.func11,Tryz.ntmps11
 rcases hsplit with ⟨j1,j2⟩|j1
 all_goals
  try (have j3:(12:Int)<(n:Int):=by omega)
  go_wp2_with fail
  go_loopw [2,3] (fun r i wr=>∃k:Nat,k<=n/\i=.int .i64 k/\r=.bool false/\Hid (Kp w [] wr)/\Hid (∀x∈xs.take k,GrX x)) (fun _ i _=>n-(intOf i).toNat)
  case atStart=>exact⟨0,Nat.zero_le _,rfl,rfl,H,(show ∀x∈xs.take 0,GrX x from fun x h=>by simp at h)⟩
  case round=>
   clear H;obtain⟨k,hk,rfl,rfl,H,HG⟩:=hrel
   by_cases hlt:k<n
   ·obtain⟨b,off,x,rfl,hb,hx,hr⟩:=(HS.out.below H.out.bl).at_ hlt
    obtain⟨f,v⟩:=x
    have hld:=Qi (show wr.rangeAt b (off+k*21) (ftA f v) from fun j u hu=>hr j u hu);have hfm:=HM.out _ (List.mem_of_getElem? hx);have HZ:=jq (Jl f v wr H.out.pw (hfm.1.here H.out.bl) hfm.2.1 hfm.2.2);have HX:=jq hx;clear hx hr hb hfm;have k1:(0:Int)<=(k:Int):=by omega
    have k2:(k:Int)<(n:Int):=by omega
    go_wp2_with fail
    refine HZ.out.mono ?_;rintro e w3 ⟨⟨bz,rfl,hz⟩,hb3⟩;have HZZ:=jq hz;clear hz
    cases bz with
    |true=>
     go_wp2_with fail
     first|go_ret|skip
     exact⟨⟨true,rfl,fun h=>by cases h⟩,(H.out.here hb3).bl⟩
    |false=>
     go_wp2_with fail
     go_roundw
     case rel=>exact⟨k+1,by omega,by go_num,rfl,H.out.here hb3,(show ∀y∈xs.take (k+1),GrX y from Za3 HX.out HG.out (HZZ.out (by trivial)))⟩
     case measure=>simp[intOf];omega
   ·obtain rfl:k=n:=by omega
    go_wp2_with fail
    first|go_ret|skip
    exact⟨⟨false,rfl,fun _=>⟨HC.out,by have h:=HG.out;rwa [List.take_of_length_le (by have:=HNW.out;omega)] at h⟩⟩,H.out.bl⟩
end
end Go.Proofs.YtbcnkcldlealjaaGreatDoor
