/- Vlg, Vfn. -/
import Derived.Test.YtbcnkcldlealjaaGreatDoorQGVa22
import Derived.Test.YtbcnkcldlealjaaGreatDoorQGVa12
set_option maxRecDepth 100000
set_option maxHeartbeats 4000000
namespace Go.Proofs.YtbcnkcldlealjaaGreatDoor
open Go.Lib renaming hid→jq
open Go.RowKit Go.Shelf
section
attribute [local go_sem] Oper.semAt_some
attribute [local go_sem ↓] Qr QC
def ZeT(xs:List Fx):Nat->Option Int
 |0=>none
 |j+1=>xs[j]?.map (·.1.stamp)
theorem Zd6{xs:List Fx}{k:Nat}{f:Fct}{v:FaV}(h:xs[k]?=some (f,v)):(xs.map (·.1)).drop k=f::(xs.map (·.1)).drop (k+1):=by
 obtain⟨hk,e⟩:=List.getElem?_eq_some_iff.1 h
 rw[List.drop_eq_getElem_cons (by simpa using hk),List.getElem_map,e]
theorem ZbW{w:World}{x:Fx}(hp:Env w)(h:FxM w w.1.size x):Calls Tryz.prog 27 #[.agg (Qb x.1 x.2)] w fun e w'=>e=.returned (.int .i64 (Qo x.1))/\Below w.1.size w w':=
 Zdt x.1 x.2 w hp h.sz h.m h.pn h.on
theorem JB(A:Option Addr)(n c:Nat)(xs:List Fx)(w:World)(hp:Env w)(hs:Fxs w w.1.size A n xs)(hn:n<=1000000000):
 Calls Tryz.prog 43 #[.slice A n c] w fun e w'=>e=.returned (.int .i64 (VA (xs.map (·.1))))/\Below w.1.size w w':=by
 have hsc:VA (xs.map (·.1))=if 1000<(xs.map (·.1)).length then 4 else Zap none (xs.map (·.1)):=rfl
 rw[List.length_map,<-hs.len] at hsc;have HSC:=jq hsc;generalize VA (xs.map (·.1))=res at*;have HS:=jq hs;have HNW:=jq hs.len;have H:=jq (Kp.start hp);clear hs hp hsc
 by_cases h1:1000<n
 ·have hq:=HSC.out;rw[if_pos h1] at hq;have HQ:=jq hq;clear hq hn;go_enter Tryz.func43,Tryz.ntmps43
  go_wp2_with fail
  first|go_ret|skip
  exact⟨Qa HQ.out.symm,H.out.bl⟩
 have hq:=HSC.out;rw[if_neg h1] at hq;have HQ:=jq hq;clear hq HSC;go_enter Tryz.func43,Tryz.ntmps43
 go_wp2_with fail
 go_loopw [2,3,4,5,11] (fun r _ _ _ i wr=>∃k:Nat,k<=n/\r=.int .i64 0/\i=.int .i64 k/\Hid (Kp w [] wr)/\Hid (Zap (ZeT xs k) ((xs.map (·.1)).drop k)=res)) (fun _ _ _ _ i _=>n-(intOf i).toNat)
 case atStart=>exact⟨0,Nat.zero_le _,rfl,rfl,H,by show _=_;rw[List.drop_zero];exact HQ.out.symm⟩
 case round=>
  clear H HQ;obtain⟨k,hk,rfl,rfl,H,HQ⟩:=hrel
  by_cases hlt:k<n
  ·obtain⟨b,off,f,v,rfl,hb,hx,hm,hr⟩:=(HS.out.below H.out.bl).at_ hlt
   have hld:=Ql hr;have hst:=fun cs (hc:cs.size=21)=>Qh wr f v (cs:=cs) hc
   have HX:=jq hx;have HM:=jq ((hm.more H.out.bl.size).here ((Below.refl _ wr).alloc (Nat.le_refl _) (.cells (Qb f v) 44)));have HB:=jq (H.out.new wr.1.size rfl (Qb f v) 44);have HDR:=jq (show Zap (ZeT xs k) (f::(xs.map (·.1)).drop (k+1))=res by rw[<-Zd6 hx];exact HQ.out);clear hx hr hb hm HQ;go_upto_region 6 with (fail)
   generalize wr.alloc (.cells (Qb f v) 44)=W1 at*;clear hld hst;generalize hbb:wr.1.size=b1 at*;clear hbb;have hl1:=Qm (HB.out.at_ 0 rfl) (Qe f v);have HC:=jq (ZbW HB.out.pw HM.out);go_wp2_with fail
   refine HC.out.mono ?_;rintro e W2 ⟨rfl,hb2⟩;replace HB:=jq (HB.out.here hb2);have HLC:=jq (show Zap (ZeT xs k) (f::(xs.map (·.1)).drop (k+1))=if Qo f≠0 then Qo f else if Zao (ZeT xs k) f.stamp=true then 8 else Zap (some f.stamp) ((xs.map (·.1)).drop (k+1)) from rfl);rw[HDR.out] at HLC;clear hl1 hb2 HC HM HDR;have c1:=HB.out.c 0 1 rfl (show(Qb f v)[1]?=some (.int .i64 f.stamp) from rfl);have HNX:=jq (show ZeT xs (k+1)=some f.stamp by show xs[k]?.map (·.1.stamp)=_;rw[HX.out];rfl);generalize Qo f=z at*
   by_cases hz:z=0
   ·have hz0:(z !=0)=false:=by simp[hz]
    have hq:=HLC.out;rw[if_neg (by simpa using hz)] at hq
    cases k with
    |zero=>
     have HQ2:=jq (show res=Zap (some f.stamp) ((xs.map (·.1)).drop (0+1)) by rw[hq];rfl);clear hq HLC hz;go_upto_region 9 with (fail)
     go_quiet (fail)
     go_wp2_with fail
     go_roundw
     case rel=>exact⟨1,by omega,rfl,rfl,(HB.out.drewN _).bare,by show _=_;rw[HNX.out];exact HQ2.out.symm⟩
     case measure=>simp[intOf];omega
    |succ j=>
     obtain⟨b',off',g,u,hA,hb',hx',_,hr'⟩:=(HS.out.below HB.out.bl).at_ (i:=j) (by omega)
     injection hA with hA;injection hA with hA1 hA2;subst hA1;subst hA2
     have d1:=hr' 1 _ (show(ftA g u)[1]?=some (.int .i64 g.stamp) from rfl);have hpr:ZeT xs (j+1)=some g.stamp:=by show xs[j]?.map (·.1.stamp)=_;rw[hx'];rfl
     rw[hpr] at hq;have i1:(0:Int)<=(j:Int):=by omega
     have i2:(j:Int)<(n:Int):=by omega
     have i3:decide ((0:Int)<(j:Int)+1)=true:=decide_eq_true (by omega);clear hr' hx' hpr HLC hz hb'
     by_cases hs:f.stamp<g.stamp
     ·rw[if_pos (by simpa[Zao] using hs)] at hq;have HQ2:=jq hq;have hd:decide (f.stamp<g.stamp)=true:=decide_eq_true hs;clear hq;go_upto_region 9 with (fail)
      go_quiet (fail)
      go_wp2_with fail
      first|go_ret|skip
      exact⟨Qa HQ2.out.symm,(HB.out.drewN _).bl⟩
     ·rw[if_neg (by simpa[Zao] using hs)] at hq;have HQ2:=jq hq;have hd:decide (f.stamp<g.stamp)=false:=decide_eq_false hs;clear hq;go_upto_region 9 with (fail)
      go_quiet (fail)
      go_wp2_with fail
      go_roundw
      case rel=>exact⟨j+1+1,by omega,rfl,by go_num,(HB.out.drewN _).bare,by show _=_;rw[HNX.out];exact HQ2.out.symm⟩
      case measure=>simp[intOf];omega
   ·have hz0:(z !=0)=true:=by simp[hz]
    have hq:=HLC.out;rw[if_pos hz] at hq;have HQ2:=jq hq;clear hz hq HLC;go_wp2_with fail
    first|go_ret|skip
    exact⟨Qa HQ2.out.symm,HB.out.bl⟩
  ·have HE:=jq (show res=0 by
    have:=HQ.out
    rw[List.drop_eq_nil_of_le (by rw[List.length_map];have:=HNW.out;omega)] at this;exact this.symm)
   go_wp2_with fail
   first|go_ret|skip
   exact⟨Qa HE.out.symm,H.out.bl⟩
end
section
attribute [local go_sem] Oper.semAt_some
def Zi6(n:Nat)(xs:List Fx)(e:Ending):Prop:=∃b,e=.returned (.bool b)/\(b=true->n<=12/\(∀x∈xs,GrX x)/\VA (xs.map (·.1))=0)
theorem ZcC(A:Option Addr)(n c:Nat)(xs:List Fx)(w:World)(hp:Env w)(hs:Sl Qt 21 w w.1.size A n xs)(hi:∀x∈xs,FxI w x)(hn:n<=maxLen):
 Calls Tryz.prog 22 #[.slice A n c] w fun e w'=>Zi6 n xs e/\Below w.1.size w w':=by
 have hml:maxLen<=9223372036854775807:=by decide
 have H:=jq (Kp.start hp);have HG:=jq (Zdl A n c xs w hp hs (ZhA hi) (by omega));have HF:=jq (fun(hg:∀x∈xs,GrX x) (h:n<=12) W (hb:Below w.1.size w W)=>JB A n c xs W (hp.here hb) ((XB hs hi hg).here hb) (by omega));clear hp hs hi hml;go_enter Tryz.func22,Tryz.ntmps22
 go_wp2_with fail
 refine HG.out.mono ?_;rintro e w1 ⟨⟨b,rfl,hP⟩,hb1⟩;have HP:=jq hP;have H1:=jq (H.out.here hb1);clear hP hb1 H HG
 cases b with
 |true=>
  go_wp2_with fail
  first|go_ret|skip
  exact⟨⟨false,rfl,fun h=>by cases h⟩,H1.out.bl⟩
 |false=>
 have HP2:=jq (HP.out rfl)
 by_cases h12:n<=12
 ·have i1:(n:Int)<=12:=by omega
  have HFX:=jq (HF.out HP2.out.2 h12 _ H1.out.bl);have HN:=jq h12;clear HF HP h12;go_wp2_with fail
  refine HFX.out.mono ?_;rintro e w2 ⟨rfl,hb2⟩;have HB:=jq (H1.out.here hb2).bl;have HQ:=jq (show VA (xs.map (·.1))=0->n<=12/\(∀x∈xs,GrX x)/\VA (xs.map (·.1))=0 from fun h=>⟨HN.out,HP2.out.2,h⟩);clear hb2 HFX
  by_cases hz:VA (xs.map (·.1))=0
  ·have HZ:=jq (HQ.out hz);rw[hz];clear hz;go_wp2_with fail
   first|go_ret|skip
   exact⟨⟨true,rfl,fun _=>HZ.out⟩,HB.out⟩
  ·generalize VA (xs.map (·.1))=z at*;have hz2:(z==0)=false:=by simpa using hz
   clear hz;go_wp2_with fail
   first|go_ret|skip
   exact⟨⟨false,rfl,fun h=>by cases h⟩,HB.out⟩
 ·have i1:¬(n:Int)<=12:=by omega
  clear h12;go_wp2_with fail
  first|go_ret|skip
  exact⟨⟨false,rfl,fun h=>by cases h⟩,H1.out.bl⟩
end
end Go.Proofs.YtbcnkcldlealjaaGreatDoor
