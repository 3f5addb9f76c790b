/- Vlg, Vfn. -/
import Derived.Test.YtmfjmngebldanaaGreatDoorQGVe15
import Derived.Test.YtmfjmngebldanaaGreatDoorQGVe30
set_option maxRecDepth 100000
set_option maxHeartbeats 4000000
namespace Go.Proofs.YtmfjmngebldanaaGreatDoor
open Go.Lib renaming hid→jq
open Go.RowKit Go.Shelf
section
attribute [local go_sem] Oper.semAt_some
attribute [local go_sem ↓] Ql Qz
def ZbA(xs:List Fx):Nat->Option Int
 |0=>none
 |j+1=>xs[j]?.map (·.1.stamp)
theorem ZbO{xs:List Fx}{k:Nat}{f:Fct}{v:FaV}(h:xs[k]?=some (f,v)):(xs.map (·.1)).drop k=f::(xs.map (·.1)).drop (k+1):=by
 obtain⟨hk,e⟩:=List.getElem?_eq_some_iff.1 h
 rw[List.drop_eq_getElem_cons (by simpa using hk),List.getElem_map,e]
theorem Zea{w:World}{x:Fx}(hp:Env w)(h:FxM w w.1.size x):Calls Tryz.prog 46 #[.agg (Qb x.1 x.2)] w fun e w'=>e=.returned (.int .i64 (Qt x.1))/\Below w.1.size w w':=
 Zgh x.1 x.2 w hp h.sz h.m h.pn h.on
theorem Zff(A:Option Addr)(n c:Nat)(xs:List Fx)(w:World)(hp:Env w)(hs:Fxs w w.1.size A n xs)(hn:n<=1000000000):
 Calls Tryz.prog 27 #[.slice A n c] w fun e w'=>e=.returned (.int .i64 (Zbx (xs.map (·.1))))/\Below w.1.size w w':=by
 have hsc:Zbx (xs.map (·.1))=if 1000<(xs.map (·.1)).length then 4 else Zax none (xs.map (·.1)):=rfl
 rw[List.length_map,<-hs.len] at hsc;have HSC:=jq hsc;generalize Zbx (xs.map (·.1))=res at*;have HS:=jq hs;have HNW:=jq hs.len;have H:=jq (Kp.start hp);clear hs hp hsc
 by_cases h1:1000<n
 ·have hq:=HSC.out;rw[if_pos h1] at hq;have HQ:=jq hq;clear hq hn;go_enter Tryz.func27,Tryz.ntmps27
  go_wp2_with fail
  first|go_ret|skip
  exact⟨Qa HQ.out.symm,H.out.bl⟩
 have hq:=HSC.out;rw[if_neg h1] at hq;have HQ:=jq hq;clear hq HSC;go_enter Tryz.func27,Tryz.ntmps27
 go_wp2_with fail
 go_loopw [2,3,4,5,11] (fun r _ _ _ i wr=>∃k:Nat,k<=n/\r=.int .i64 0/\i=.int .i64 k/\Hid (Kp w [] wr)/\Hid (Zax (ZbA xs k) ((xs.map (·.1)).drop k)=res)) (fun _ _ _ _ i _=>n-(intOf i).toNat)
 case atStart=>exact⟨0,Nat.zero_le _,rfl,rfl,H,by show _=_;rw[List.drop_zero];exact HQ.out.symm⟩
 case round=>
  clear H HQ;obtain⟨k,hk,rfl,rfl,H,HQ⟩:=hrel
  by_cases hlt:k<n
  ·obtain⟨b,off,f,v,rfl,hb,hx,hm,hr⟩:=(HS.out.below H.out.bl).at_ hlt
   have hld:=Qi hr;have hst:=fun cs (hc:cs.size=21)=>QB wr f v (cs:=cs) hc
   have HX:=jq hx;have HM:=jq ((hm.more H.out.bl.size).here ((Below.refl _ wr).alloc (Nat.le_refl _) (.cells (Qb f v) 43)));have HB:=jq (H.out.new wr.1.size rfl (Qb f v) 43);have HDR:=jq (show Zax (ZbA xs k) (f::(xs.map (·.1)).drop (k+1))=res by rw[<-ZbO hx];exact HQ.out);clear hx hr hb hm HQ;go_upto_region 6 with (fail)
   generalize wr.alloc (.cells (Qb f v) 43)=W1 at*;clear hld hst;generalize hbb:wr.1.size=b1 at*;clear hbb;have hl1:=Qj (HB.out.at_ 0 rfl) (Qg f v);have HC:=jq (Zea HB.out.pw HM.out);go_wp2_with fail
   refine HC.out.mono ?_;rintro e W2 ⟨rfl,hb2⟩;replace HB:=jq (HB.out.here hb2);have HLC:=jq (show Zax (ZbA xs k) (f::(xs.map (·.1)).drop (k+1))=if Qt f≠0 then Qt f else if Zb8 (ZbA xs k) f.stamp=true then 8 else Zax (some f.stamp) ((xs.map (·.1)).drop (k+1)) from rfl);rw[HDR.out] at HLC;clear hl1 hb2 HC HM HDR;have c1:=HB.out.c 0 1 rfl (show(Qb f v)[1]?=some (.int .i64 f.stamp) from rfl);have HNX:=jq (show ZbA xs (k+1)=some f.stamp by show xs[k]?.map (·.1.stamp)=_;rw[HX.out];rfl);generalize Qt f=z at*
   by_cases hz:z=0
   ·have hz0:(z !=0)=false:=by simp[hz]
    have hq:=HLC.out;rw[if_neg (by simpa using hz)] at hq
    cases k with
    |zero=>
     have HQ2:=jq (show res=Zax (some f.stamp) ((xs.map (·.1)).drop (0+1)) by rw[hq];rfl);clear hq HLC hz;go_upto_region 9 with (fail)
     go_quiet (fail)
     go_wp2_with fail
     go_roundw
     case rel=>exact⟨1,by omega,rfl,rfl,(HB.out.drewN _).bare,by show _=_;rw[HNX.out];exact HQ2.out.symm⟩
     case measure=>simp[intOf];omega
    |succ j=>
     obtain⟨b',off',g,u,hA,hb',hx',_,hr'⟩:=(HS.out.below HB.out.bl).at_ (i:=j) (by omega)
     injection hA with hA;injection hA with hA1 hA2;subst hA1;subst hA2
     have d1:=hr' 1 _ (show(ftA g u)[1]?=some (.int .i64 g.stamp) from rfl);have hpr:ZbA xs (j+1)=some g.stamp:=by show xs[j]?.map (·.1.stamp)=_;rw[hx'];rfl
     rw[hpr] at hq;have i1:(0:Int)<=(j:Int):=by omega
     have i2:(j:Int)<(n:Int):=by omega
     have i3:decide ((0:Int)<(j:Int)+1)=true:=decide_eq_true (by omega);clear hr' hx' hpr HLC hz hb'
     by_cases hs:f.stamp<g.stamp
     ·rw[if_pos (by simpa[Zb8] using hs)] at hq;have HQ2:=jq hq;have hd:decide (f.stamp<g.stamp)=true:=decide_eq_true hs;clear hq;go_upto_region 9 with (fail)
      go_quiet (fail)
      go_wp2_with fail
      first|go_ret|skip
      exact⟨Qa HQ2.out.symm,(HB.out.drewN _).bl⟩
     ·rw[if_neg (by simpa[Zb8] using hs)] at hq;have HQ2:=jq hq;have hd:decide (f.stamp<g.stamp)=false:=decide_eq_false hs;clear hq;go_upto_region 9 with (fail)
      go_quiet (fail)
      go_wp2_with fail
      go_roundw
      case rel=>exact⟨j+1+1,by omega,rfl,by go_num,(HB.out.drewN _).bare,by show _=_;rw[HNX.out];exact HQ2.out.symm⟩
      case measure=>simp[intOf];omega
   ·have hz0:(z !=0)=true:=by simp[hz]
    have hq:=HLC.out;rw[if_pos hz] at hq;have HQ2:=jq hq;clear hz hq HLC;go_wp2_with fail
    first|go_ret|skip
    exact⟨Qa HQ2.out.symm,HB.out.bl⟩
  ·have HE:=jq (show res=0 by
    have:=HQ.out
    rw[List.drop_eq_nil_of_le (by rw[List.length_map];have:=HNW.out;omega)] at this;exact this.symm)
   go_wp2_with fail
   first|go_ret|skip
   exact⟨Qa HE.out.symm,H.out.bl⟩
end
section
attribute [local go_sem] Oper.semAt_some
end
end Go.Proofs.YtmfjmngebldanaaGreatDoor
