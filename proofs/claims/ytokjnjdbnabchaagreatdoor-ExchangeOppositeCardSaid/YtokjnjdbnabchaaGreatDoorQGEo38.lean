/- Vxi, Vgr, El. -/
import Derived.Test.YtokjnjdbnabchaaGreatDoorQGEo12
set_option maxRecDepth 100000
set_option maxHeartbeats 4000000
namespace Go.Proofs.YtokjnjdbnabchaaGreatDoor
open Go.Lib renaming hid→jq
open Go.RowKit Go.Shelf
section
def FxI(W:World)(x:Fx):Prop:=FaM W W.1.size x.1 x.2/\x.2.pn<=maxLen/\x.2.on<=maxLen/\x.1.Max
def GrX(x:Fx):Prop:=x.1.Gs/\x.2.pn<=66/\x.2.on<=10/\(∀p∈x.1.picks,p.Sz 30)/\∀o∈x.1.options,o.Sz 24
theorem FxI.m{W:World}{x:Fx}(h:FxI W x)(hg:GrX x):FxM W W.1.size x:=
 ⟨h.1,Nat.le_trans hg.2.1 (by omega),Nat.le_trans hg.2.2.1 (by omega),hg.1.sz0 h.2.2.2 hg.2.2.2.1 hg.2.2.2.2⟩
theorem FxI.here{W W':World}{x:Fx}(h:FxI W x)(hb:Below W.1.size W W'):FxI W' x:=⟨h.1.here hb,h.2⟩
theorem Zaj{W:World}{A:Option Addr}{n:Nat}{xs:List Fx}(h:Sl Vk 21 W W.1.size A n xs)(hi:∀x∈xs,FxI W x)(hg:∀x∈xs,GrX x):Fxs W W.1.size A n xs:=⟨h,fun x hx=>(hi x hx).m (hg x hx)⟩
theorem ZdC{W:World}{xs:List Fx}(hi:∀x∈xs,FxI W x):∀x∈xs,FaM W W.1.size x.1 x.2/\x.2.pn<=9223372036854775807/\x.2.on<=9223372036854775807:=by
 have hml:maxLen<=9223372036854775807:=by decide
 exact fun x hx=>⟨(hi x hx).1,Nat.le_trans (hi x hx).2.1 hml,Nat.le_trans (hi x hx).2.2.1 hml⟩
end
section
attribute [local go_sem] Oper.semAt_some
attribute [local go_sem ↓] Qv QI
def GvP(n:Nat)(xs:List Fx)(e:Ending):Prop:=∃b,e=.returned (.bool b)/\(b=false->(n<=1002/\(n<=12\/1000<n))/\∀x∈xs,GrX x)
theorem Zdr(A:Option Addr)(n c:Nat)(xs:List Fx)(w:World)(hp:Env w)(hs:Sl Vk 21 w w.1.size A n xs)(hm:∀x∈xs,FaM w w.1.size x.1 x.2/\x.2.pn<=9223372036854775807/\x.2.on<=9223372036854775807)(hn:n<=9223372036854775807):
 Calls Tryz.prog 41 #[.slice A n c] w fun e w'=>GvP n xs e/\Below w.1.size w w':=by
 have H:=jq (Kp.start hp);have HS:=jq hs;have HM:=jq hm;have HNW:=jq hs.1;clear hp hs hm
 by_cases h1:12<n/\n<=1000
 ·have i1:(12:Int)<(n:Int):=by omega
  have i2:(n:Int)<=1000:=by omega
  clear h1;go_enter Tryz.func41,Tryz.ntmps41
  go_wp2_with fail
  first|go_ret|skip
  exact⟨⟨true,rfl,fun h=>by cases h⟩,H.out.bl⟩
 by_cases h2:1002<n
 ·have i1:(12:Int)<(n:Int):=by omega
  have i2:¬(n:Int)<=1000:=by omega
  have i3:(1002:Int)<(n:Int):=by omega
  clear h1 h2;go_enter Tryz.func41,Tryz.ntmps41
  go_wp2_with fail
  first|go_ret|skip
  exact⟨⟨true,rfl,fun h=>by cases h⟩,H.out.bl⟩
 have HC:=jq (show n<=1002/\(n<=12\/1000<n) by omega)
 have hc1:(decide ((12:Int)<(n:Int))&&decide ((n:Int)<=1000))=false:=by
  rw[Bool.and_eq_false_iff,decide_eq_false_iff_not,decide_eq_false_iff_not];omega
 have i3:¬(1002:Int)<(n:Int):=by omega
 have hsplit:(12<n/\¬(n:Int)<=1000)\/¬(12:Int)<(n:Int):=by omega
 clear h1 h2;go_enter Tryz.func41,Tryz.ntmps41
 rcases hsplit with ⟨j1,j2⟩|j1
 all_goals
  try (have j3:(12:Int)<(n:Int):=by omega)
  go_wp2_with fail
  go_loopw [2,3] (fun r i wr=>∃k:Nat,k<=n/\i=.int .i64 k/\r=.bool false/\Hid (Kp w [] wr)/\Hid (∀x∈xs.take k,GrX x)) (fun _ i _=>n-(intOf i).toNat)
  case atStart=>exact⟨0,Nat.zero_le _,rfl,rfl,H,(show ∀x∈xs.take 0,GrX x from fun x h=>by simp at h)⟩
  case round=>
   clear H;obtain⟨k,hk,rfl,rfl,H,HG⟩:=hrel
   by_cases hlt:k<n
   ·obtain⟨b,off,x,rfl,hb,hx,hr⟩:=(HS.out.below H.out.bl).at_ hlt
    obtain⟨f,v⟩:=x
    have hld:=Xq (show wr.rangeAt b (off+k*21) (ftA f v) from fun j u hu=>hr j u hu);have hfm:=HM.out _ (List.mem_of_getElem? hx);have HZ:=jq (Zbi f v wr H.out.pw (hfm.1.here H.out.bl) hfm.2.1 hfm.2.2);have HX:=jq hx;clear hx hr hb hfm;have k1:(0:Int)<=(k:Int):=by omega
    have k2:(k:Int)<(n:Int):=by omega
    go_wp2_with fail
    refine HZ.out.mono ?_;rintro e w3 ⟨⟨bz,rfl,hz⟩,hb3⟩;have HZZ:=jq hz;clear hz
    cases bz with
    |true=>
     go_wp2_with fail
     first|go_ret|skip
     exact⟨⟨true,rfl,fun h=>by cases h⟩,(H.out.here hb3).bl⟩
    |false=>
     go_wp2_with fail
     go_roundw
     case rel=>exact⟨k+1,by omega,by go_num,rfl,H.out.here hb3,(show ∀y∈xs.take (k+1),GrX y from JI HX.out HG.out (HZZ.out (by trivial)))⟩
     case measure=>simp[intOf];omega
   ·obtain rfl:k=n:=by omega
    go_wp2_with fail
    first|go_ret|skip
    exact⟨⟨false,rfl,fun _=>⟨HC.out,by have h:=HG.out;rwa [List.take_of_length_le (by have:=HNW.out;omega)] at h⟩⟩,H.out.bl⟩
end
section
attribute [local go_sem] Oper.semAt_some
attribute [local go_sem ↓] Go.wp_at_zero Go.wp_at_succ
theorem ZbF(s:List UInt8)(w:World)(_hl:s.length<=maxLen):Calls Tryz.prog 43 (#[S s]++#[]) w fun e w'=>e=.returned (.bool (decide (10<s.length)))/\Below w.1.size w w':=by
 have HB:=jq (Below.refl w.1.size w);have e:decide ((10:Int)<(s.length:Int))=decide (10<s.length):=by rw[decide_eq_decide];omega
 unfold S;go_enter Tryz.func43,Tryz.ntmps43
 go_wp2_with fail
 first|go_ret|skip
 refine⟨?_,HB.out⟩
 first|rfl|(rw[<-e];rfl)|(simp only[<-e];rfl)
def GxP(n:Nat)(xs:List Fx)(cs:List Ky)(e:Ending):Prop:=∃b,e=.returned (.bool b)/\(b=false->(n<=1002/\(n<=12\/1000<n))/\(∀x∈xs,GrX x)/\∀s∈cs,s.length<=10)
theorem ZcD(A A2:Option Addr)(n c n2 c2:Nat)(xs:List Fx)(cs:List Ky)(w:World)(hp:Env w)(hs:Sl Vk 21 w w.1.size A n xs)(hm:∀x∈xs,FaM w w.1.size x.1 x.2/\x.2.pn<=9223372036854775807/\x.2.on<=9223372036854775807)(hn:n<=9223372036854775807)
 (hc:YQ w w.1.size A2 n2 cs) (hl:∀s∈cs,s.length<=maxLen) (hn2:n2<=9223372036854775807):
 Calls Tryz.prog 10 #[.slice A n c,.slice A2 n2 c2] w fun e w'=>GxP n xs cs e/\Below w.1.size w w':=by
 have HG:=jq (Zdr A n c xs w hp hs hm hn);have HCS:=jq (fun(h8:n2<=8) W (hW:Below w.1.size w W)=>YA 43 #[] (fun s=>decide (10<s.length)) A2 n2 c2 cs W (fun args w=>by rfl) (fun W2 s hs hb=>ZbF s W2 (hl s hs)) (hc.here hW) (by omega));clear hs hm hc hl hp;go_enter Tryz.func10,Tryz.ntmps10
 go_wp2_with fail
 refine HG.out.mono ?_;rintro e w1 ⟨⟨b,rfl,hb⟩,hb1⟩;have HB:=jq hb;have HB1:=jq hb1;clear hb hb1 HG
 cases b with
 |true=>
  clear HCS;go_wp2_with fail
  first|go_ret|skip
  exact⟨⟨true,rfl,fun h=>by cases h⟩,HB1.out⟩
 |false=>
  replace HB:=jq (HB.out (by first|rfl|trivial))
  by_cases h8:8<n2
  ·have i8:(8:Int)<(n2:Int):=by omega
   clear HCS;go_wp2_with fail
   first|go_ret|skip
   exact⟨⟨true,rfl,fun h=>by cases h⟩,HB1.out⟩
  ·have i8:¬(8:Int)<(n2:Int):=by omega
   replace HCS:=jq (HCS.out (by omega));go_wp2_with fail
   refine(HCS.out w1 HB1.out).mono ?_;rintro e w2 ⟨rfl,hb2⟩;have HB2:=jq (HB1.out.trans (hb2.mono HB1.out.size))
   have HAN:=jq (show cs.any (fun s=>decide (10<s.length))=false->∀s∈cs,s.length<=10 from fun h s hs=>by
    rw[List.any_eq_false] at h;have:=h s hs
    simp only[decide_eq_true_eq] at this;omega)
   generalize cs.any (fun s=>decide (10<s.length))=z at*;clear hb2
   cases z<;>go_wp2_with fail
   ·first|go_ret|skip
    exact⟨⟨decide ((8:Int)<(n2:Int)),rfl,fun _=>⟨HB.out.1,HB.out.2,HAN.out (by first|rfl|trivial)⟩⟩,HB2.out⟩
   ·first|go_ret|skip
    exact⟨⟨true,rfl,fun h=>by cases h⟩,HB2.out⟩
end
end Go.Proofs.YtokjnjdbnabchaaGreatDoor
