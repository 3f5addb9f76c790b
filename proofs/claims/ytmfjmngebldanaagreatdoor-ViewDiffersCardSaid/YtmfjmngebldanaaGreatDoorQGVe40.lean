/- Y5, Y6, Y7, Y8. -/
import Derived.Test.YtmfjmngebldanaaGreatDoorQGVe27
import Derived.Test.YtmfjmngebldanaaGreatDoorQGVe29
set_option maxRecDepth 100000
set_option maxHeartbeats 8000000
namespace Go.Proofs.YtmfjmngebldanaaGreatDoor
open Go.Lib renaming hid→jq
open Go.RowKit Go.Shelf
section
attribute [local go_sem] Oper.semAt_some
attribute [local go_sem ↓] Go.wp_at_zero Go.wp_at_succ Ql Qz
theorem Zel{w:World}{x:Fx}(hp:Env w)(h:FxM w w.1.size x):Calls Tryz.prog 52 #[.agg (Qb x.1 x.2)] w fun e w'=>e=.returned (.int .i64 (Qt x.1))/\Below w.1.size w w':=
 Zft x.1 x.2 w hp h.sz h.m h.pn h.on
theorem Zk2(A:Option Addr)(n c:Nat)(xs:List Fx)(w:World)(hp:Env w)(hs:Fxs w w.1.size A n xs)(hn:n<=1000000000):
 Calls Tryz.prog 31 #[.slice A n c] w fun e w'=>e=.returned (.int .i64 (Zbx (xs.map (·.1))))/\Below w.1.size w w':=by
 have hsc:Zbx (xs.map (·.1))=if 1000<(xs.map (·.1)).length then 4 else Zax none (xs.map (·.1)):=rfl
 rw[List.length_map,<-hs.len] at hsc;have HSC:=jq hsc;generalize Zbx (xs.map (·.1))=res at*;have HS:=jq hs;have HNW:=jq hs.len;have H:=jq (Kp.start hp);clear hs hp hsc
 by_cases h1:1000<n
 ·have hq:=HSC.out;rw[if_pos h1] at hq;have HQ:=jq hq;clear hq hn;go_enter Tryz.func31,Tryz.ntmps31
  go_wp2_with fail
  first|go_ret|skip
  exact⟨Qa HQ.out.symm,H.out.bl⟩
 have hq:=HSC.out;rw[if_neg h1] at hq;have HQ:=jq hq;clear hq HSC;go_enter Tryz.func31,Tryz.ntmps31
 go_wp2_with fail
 go_loopw [3,4] (fun i _ wr=>∃k:Nat,k<=n/\i=.int .i64 k/\Hid (Kp w [] wr)/\Hid (Zax (ZbA xs k) ((xs.map (·.1)).drop k)=res)) (fun i _ _=>n-(intOf i).toNat)
 case atStart=>exact⟨0,Nat.zero_le _,rfl,H,by show _=_;rw[List.drop_zero];exact HQ.out.symm⟩
 case round=>
  clear H HQ;obtain⟨k,hk,rfl,H,HQ⟩:=hrel
  by_cases hlt:k<n
  ·obtain⟨b,off,f,v,rfl,hb,hx,hm,hr⟩:=(HS.out.below H.out.bl).at_ hlt
   have hld:=Qi hr;have HX:=jq hx;have HDR:=jq (show Zax (ZbA xs k) (f::(xs.map (·.1)).drop (k+1))=res by rw[<-ZbO hx];exact HQ.out);have HC:=jq (Zel (x:=(f,v)) H.out.pw (hm.more H.out.bl.size));have HLC:=jq (show Zax (ZbA xs k) (f::(xs.map (·.1)).drop (k+1))=if Qt f≠0 then Qt f else if Zb8 (ZbA xs k) f.stamp=true then 8 else Zax (some f.stamp) ((xs.map (·.1)).drop (k+1)) from rfl);rw[HDR.out] at HLC;have HRW:=jq (fun X (hX:Below wr.1.size wr X)=>(Qu hr hX (Nat.lt_of_lt_of_le hb H.out.bl.size)));have HNX:=jq (show ZbA xs (k+1)=some f.stamp by show xs[k]?.map (·.1.stamp)=_;rw[HX.out];rfl);have i5:(0:Int)<=(k:Int):=by omega
   have i6:(k:Int)<(n:Int):=by omega
   dsimp only at HC
   generalize Qt f=z at*;clear hx hr hb hm HQ HDR;go_wp2_with fail
   refine HC.out.mono ?_;rintro e W2 ⟨rfl,hb2⟩;have H2:=jq (H.out.here hb2);have d1:W2.cell? ⟨b,off+k*21+1,none⟩=some (.int .i64 f.stamp):=HRW.out W2 hb2 1 _ (show(ftA f v)[1]?=some (.int .i64 f.stamp) from rfl);clear hld hb2 HC HRW H
   by_cases hz:z=0
   ·have hz0:(z !=0)=false:=by simp[hz]
    have hq:=HLC.out;rw[if_neg (by simpa using hz)] at hq
    cases k with
    |zero=>
     have HQ2:=jq (show res=Zax (some f.stamp) ((xs.map (·.1)).drop (0+1)) by rw[hq];rfl);clear hq HLC hz;go_upto_region 9 with (fail)
     go_quiet (fail)
     go_wp2_with fail
     go_roundw
     case rel=>exact⟨1,by omega,rfl,(H2.out.drewN _).bare,by show _=_;rw[HNX.out];exact HQ2.out.symm⟩
     case measure=>simp[intOf];omega
    |succ j=>
     obtain⟨b',off',g,u,hA,hb',hx',_,hr'⟩:=(HS.out.below H2.out.bl).at_ (i:=j) (by omega)
     injection hA with hA;injection hA with hA1 hA2;subst hA1;subst hA2
     have d2:=hr' 1 _ (show(ftA g u)[1]?=some (.int .i64 g.stamp) from rfl);have hpr:ZbA xs (j+1)=some g.stamp:=by show xs[j]?.map (·.1.stamp)=_;rw[hx'];rfl
     rw[hpr] at hq;have i1:(0:Int)<=(j:Int):=by omega
     have i2:(j:Int)<(n:Int):=by omega
     have i3:decide ((0:Int)<(j:Int)+1)=true:=decide_eq_true (by omega);have hw1:IntKind.i64.wrap (((j+1:Nat):Int)-1)=(j:Int):=by simp[IntKind.wrap,IntKind.bits,IntKind.signed];omega
     have hw2:IntKind.i64.wrap ((j:Int)+1-1)=(j:Int):=by simp[IntKind.wrap,IntKind.bits,IntKind.signed];omega
     have hw3:IntKind.i64.wrap (j:Int)=(j:Int):=by simp[IntKind.wrap,IntKind.bits,IntKind.signed];omega
     clear hr' hx' hpr HLC hz hb'
     by_cases hs:f.stamp<g.stamp
     ·rw[if_pos (by simpa[Zb8] using hs)] at hq;have HQ2:=jq hq;have hd:decide (f.stamp<g.stamp)=true:=decide_eq_true hs;clear hq;go_upto_region 9 with (fail)
      go_quiet (fail)
      go_wp2_with fail
      first|go_ret|skip
      exact⟨Qa HQ2.out.symm,(H2.out.drewN _).bl⟩
     ·rw[if_neg (by simpa[Zb8] using hs)] at hq;have HQ2:=jq hq;have hd:decide (f.stamp<g.stamp)=false:=decide_eq_false hs;clear hq;go_upto_region 9 with (fail)
      go_quiet (fail)
      go_wp2_with fail
      go_roundw
      case rel=>exact⟨j+1+1,by omega,by go_num,(H2.out.drewN _).bare,by show _=_;rw[HNX.out];exact HQ2.out.symm⟩
      case measure=>simp[intOf];omega
   ·have hz0:(z !=0)=true:=by simp[hz]
    have hq:=HLC.out;rw[if_pos hz] at hq;have HQ2:=jq hq;clear hz hq HLC;go_wp2_with fail
    first|go_ret|skip
    exact⟨Qa HQ2.out.symm,H2.out.bl⟩
  ·have HE:=jq (show res=0 by
    have:=HQ.out
    rw[List.drop_eq_nil_of_le (by rw[List.length_map];have:=HNW.out;omega)] at this;exact this.symm)
   obtain rfl:k=n:=by omega
   go_wp2_with fail
   first|go_ret|skip
   exact⟨Qa HE.out.symm,H.out.bl⟩
end
section
attribute [local go_sem] Oper.semAt_some
attribute [local go_sem ↓] Go.wp_at_zero Go.wp_at_succ Ql Qz
theorem ZiB(l:List Fct)(key:List UInt8):∃z:Int,Yc l key=.tuple #[.int .i64 z,.bool (l.any fun g=>g.key==key)]:=by
 unfold Yc
 cases h:Vs l key with
 |none=>
  unfold Vs at h;rw[List.findIdx?_eq_none_iff] at h;exact⟨0,by rw[show(l.any fun g=>g.key==key)=false from List.any_eq_false.2 fun x hx=>by simpa using h x hx]⟩
 |some k=>
  unfold Vs at h;obtain⟨hk,he,_⟩:=List.findIdx?_eq_some_iff_getElem.1 h
  exact⟨k,by rw[show(l.any fun g=>g.key==key)=true from List.any_eq_true.2 ⟨l[k],List.getElem_mem hk,he⟩]⟩
theorem XQ(A:Option Addr)(n c:Nat)(xs:List Fx)(w:World)(hp:Env w)(hs:Fxs w w.1.size A n xs)(hn:n<=1000000000)(hc:n<=c)(hnil:A=none->c=0):
 Calls Tryz.prog 25 #[.slice A n c] w fun e w'=>e=.returned (.int .i64 (Xh (xs.map (·.1))))/\Below w.1.size w w':=by
 have hsc:Xh (xs.map (·.1))=if 1000<(xs.map (·.1)).length then 4 else Zay [] (xs.map (·.1)):=rfl
 rw[List.length_map,<-hs.len] at hsc;have HSC:=jq hsc;generalize Xh (xs.map (·.1))=res at*;have HS:=jq hs;have HNW:=jq hs.len;have HCC:=jq (And.intro hc hnil);have H:=jq (Kp.start hp);clear hs hp hsc hc hnil
 by_cases h1:1000<n
 ·have hq:=HSC.out;rw[if_pos h1] at hq;have HQ:=jq hq;clear hq hn;go_enter Tryz.func25,Tryz.ntmps25
  go_wp2_with fail
  first|go_ret|skip
  exact⟨Qa HQ.out.symm,H.out.bl⟩
 have hq:=HSC.out;rw[if_neg h1] at hq;have HQ:=jq hq;clear hq HSC;go_enter Tryz.func25,Tryz.ntmps25
 go_wp2_with fail
 go_loopw [3,4,5,6] (fun i _ _ _ wr=>∃k:Nat,k<=n/\i=.int .i64 k/\Hid (Kp w [] wr)/\Hid (Zay ((xs.map (·.1)).take k) ((xs.map (·.1)).drop k)=res)) (fun i _ _ _ _=>n-(intOf i).toNat)
 case atStart=>exact⟨0,Nat.zero_le _,rfl,H,by show _=_;rw[List.drop_zero,List.take_zero];exact HQ.out.symm⟩
 case round=>
  clear H HQ;obtain⟨k,hk,rfl,H,HQ⟩:=hrel
  by_cases hlt:k<n
  ·obtain⟨b,off,f,v,rfl,hb,hx,hm,hr⟩:=(HS.out.below H.out.bl).at_ hlt
   have hld:=Qi hr;have HX:=jq hx;have HC:=jq (Zel (x:=(f,v)) H.out.pw (hm.more H.out.bl.size))
   have HLC:=jq (show res=if Qt f≠0 then Qt f else if f.cancelled=true then 19 else if f.stamp≠0 then 1 else if(((xs.map (·.1)).take k).any fun g=>g.key==f.key)=true then 5
    else if Zbj ((xs.map (·.1)).take k).getLast? f=true then 8 else Zay ((xs.map (·.1)).take k++[f]) ((xs.map (·.1)).drop (k+1)) by
     have h:=HQ.out;rw[ZbO hx] at h;exact h.symm)
   have HRW:=jq (fun X (hX:Below wr.1.size wr X)=>(Qu hr hX (Nat.lt_of_lt_of_le hb H.out.bl.size)));have i5:(0:Int)<=(k:Int):=by omega
   have i6:(k:Int)<(n:Int):=by omega
   dsimp only at HC
   generalize Qt f=z at*;clear hx hr hb hm HQ;go_wp2_with fail
   refine HC.out.mono ?_;rintro e W2 ⟨rfl,hb2⟩;have H2:=jq (H.out.here hb2);have HR2:=jq (fun X (hX:Below W2.1.size W2 X)=>HRW.out X (hb2.trans (hX.mono hb2.size)));have d1:W2.cell? ⟨b,off+k*21+1,none⟩=some (.int .i64 f.stamp):=HRW.out W2 hb2 1 _ (show(ftA f v)[1]?=some (.int .i64 f.stamp) from rfl);have d2:W2.cell? ⟨b,off+k*21+2,none⟩=some (.bool f.cancelled):=HRW.out W2 hb2 2 _ (show(ftA f v)[2]?=some (.bool f.cancelled) from rfl);clear hld hb2 HC HRW H
   by_cases hz:z=0
   case neg=>
    have hz0:(z !=0)=true:=by simp[hz]
    have hq:=HLC.out;rw[if_pos hz] at hq;have HQ2:=jq hq;clear hz hq HLC;go_wp2_with fail
    first|go_ret|skip
    exact⟨Qa HQ2.out.symm,H2.out.bl⟩
   have hz0:(z !=0)=false:=by simp[hz]
   have hq:=HLC.out;rw[if_neg (by simpa using hz)] at hq;clear HLC hz
   cases hcn:f.cancelled with
   |true=>
    rw[if_pos hcn] at hq;rw[hcn] at d2;have HQ2:=jq hq;clear hq hcn;go_wp2_with fail
    first|go_ret|skip
    exact⟨Qa HQ2.out.symm,H2.out.bl⟩
   |false=>
   rw[if_neg (by rw[hcn];decide)] at hq;rw[hcn] at d2;clear hcn
   by_cases hs:f.stamp=0
   case neg=>
    rw[if_pos hs] at hq;have HQ2:=jq hq;have hs0:(f.stamp !=0)=true:=by simp[hs]
    clear hq hs;go_wp2_with fail
    first|go_ret|skip
    exact⟨Qa HQ2.out.symm,H2.out.bl⟩
   rw[if_neg (by simpa using hs)] at hq;rw[hs] at d1;clear hs;have hkc:k<=c:=by have:=HCC.out.1;omega
   obtain⟨zf,hzf⟩:=ZiB ((xs.map (·.1)).take k) f.key
   have HFI:=jq (fun W (hb:Below W2.1.size W2 W)=>(show Calls Tryz.prog 19 #[.slice (some ⟨b,off,none⟩) k c,.string ⟨f.key.toArray⟩] W fun e w'=>e=.returned (.tuple #[.int .i64 zf,.bool (((xs.map (·.1)).take k).any fun g=>g.key==f.key)])/\Below W.1.size W w' from
    (Vz _ k c (xs.take k) f.key W ((((HS.out.below H2.out.bl).more H2.out.bl.size).here hb).upto hk) (by omega)).mono (by rintro e w' ⟨rfl,rfl⟩;exact⟨by rw[List.map_take,hzf],Below.refl _ _⟩)))
   have HZ0:=jq (show ∀X,Below W2.1.size W2 X->X.cell? ⟨b,off+k*21,none⟩=some (.string ⟨f.key.toArray⟩) from fun X hX=>by have h:=HR2.out X hX 0 _ (show(ftA f v)[0]?=some (.string ⟨f.key.toArray⟩) from rfl);rw[Nat.add_zero] at h;exact h);have HBL:=jq (Below.refl W2.1.size W2);have HQR:=jq hq;have HK2:=jq (fun X (hX:Below W2.1.size W2 X)=>H2.out.here hX);clear hzf hq;generalize hany:(((xs.map (·.1)).take k).any fun g=>g.key==f.key)=bb at*;go_upto_region 13 with (fail)
   go_region_held3 (fun X=>X.cell? ⟨b,off+k*21,none⟩=some (.string ⟨f.key.toArray⟩))
    (first|exact HZ0.out _ hz2|exact HZ0.out _ HBL.out.drew|exact HZ0.out _ HBL.out|go_keep)
    (first|(go_at_call 19;refine(HFI.out _ HBL.out.drew).mono ?_;rintro e w3 ⟨rfl,hb3⟩;have hz2:Below W2.1.size W2 w3:=HBL.out.drew.trans hb3))
   all_goals
    have hq:=HQR.out
    cases bb with
    |true=>
     rw[if_pos rfl] at hq;have HQ2:=jq hq;clear hq;go_wp2_with fail
     first|go_ret|skip
     exact⟨Qa HQ2.out.symm,(HK2.out _ hz2).bl⟩
    |false=>
    rw[if_neg (by decide)] at hq;have HZ2:=jq hz2
    cases k with
    |zero=>
     have HQ2:=jq (show res=Zay ((xs.map (·.1)).take (0+1)) ((xs.map (·.1)).drop (0+1)) by rw[Ya HX.out,hq];rfl);clear hq hz2;go_upto_region 16 with (fail)
     go_quiet (fail)
     go_wp2_with fail
     go_roundw
     case rel=>exact⟨1,by omega,rfl,((HK2.out _ HZ2.out).drewN _).bare,HQ2.out.symm⟩
     case measure=>simp[intOf];omega
    |succ j=>
     obtain⟨b',off',g,u,hA,hb',hx',hm',hr'⟩:=(HS.out.below H2.out.bl).at_ (i:=j) (by omega)
     injection hA with hA;injection hA with hA1 hA2;subst hA1;subst hA2
     rw[Zho hx',show Zbj (some g) f=decide (0<=QH g f) from rfl] at hq;have HRP:=jq (fun X (hX:Below W2.1.size W2 X)=>Qu hr' hX (Nat.lt_of_lt_of_le hb' H2.out.bl.size))
     have HZ:=jq (show ∀X,Below w3.1.size w3 X->(Vj (.pointer (some ⟨b,off+j*21,none⟩))).run Tryz.prog X=.ok (.agg (Qb g u)) X/\(Vj (.pointer (some ⟨b,off+(j+1)*21,none⟩))).run Tryz.prog X=.ok (.agg (Qb f v)) X from
      fun X hX=>⟨Qi (HRP.out X (HZ2.out.trans (hX.mono HZ2.out.size))),Qi (HR2.out X (HZ2.out.trans (hX.mono HZ2.out.size)))⟩)
     have HB3:=jq (Below.refl w3.1.size w3);have HCM:=jq (fun W (hp:Env W)=>ZaE g f u v W hp);have HK3:=jq (fun X (hX:Below w3.1.size w3 X)=>HK2.out X (HZ2.out.trans (hX.mono HZ2.out.size)));generalize QH g f=cz at*;have i1:(0:Int)<=(j:Int):=by omega
     have i2:(j:Int)<(n:Int):=by omega
     have i3:(0:Int)<(j:Int)+1:=by omega
     have i7:(0:Int)<=(j:Int)+1:=by omega
     have i8:(j:Int)+1<(n:Int):=by omega
     have hw1:IntKind.i64.wrap (((j+1:Nat):Int)-1)=(j:Int):=by simp[IntKind.wrap,IntKind.bits,IntKind.signed];omega
     have hw2:IntKind.i64.wrap ((j:Int)+1-1)=(j:Int):=by simp[IntKind.wrap,IntKind.bits,IntKind.signed];omega
     have hw3:IntKind.i64.wrap (j:Int)=(j:Int):=by simp[IntKind.wrap,IntKind.bits,IntKind.signed];omega
     clear hr' hx' hm' hb' hz2 d1 d2
     by_cases hc:0<=cz
     ·rw[if_pos (by simpa using hc)] at hq;have HQ2:=jq hq;clear hq;go_upto_region 16 with (fail)
      go_region_held3 (fun X=>(Vj (.pointer (some ⟨b,off+j*21,none⟩))).run Tryz.prog X=.ok (.agg (Qb g u)) X/\(Vj (.pointer (some ⟨b,off+(j+1)*21,none⟩))).run Tryz.prog X=.ok (.agg (Qb f v)) X)
       (first|exact HZ.out _ hz4|exact HZ.out _ HB3.out.drew|exact HZ.out _ HB3.out|go_keep)
       (first|(go_at_call 54;refine(HCM.out _ (HK3.out _ HB3.out.drew).pw).mono ?_;rintro e w4 ⟨rfl,hb4⟩;have hz4:Below w3.1.size w3 w4:=HB3.out.drew.trans hb4))
      all_goals
       go_wp2_with fail
       first|go_ret|skip
       exact⟨Qa HQ2.out.symm,(HK3.out _ hz4).bl⟩
     ·rw[if_neg (by simpa using hc)] at hq;have HQ2:=jq (show res=Zay ((xs.map (·.1)).take (j+1+1)) ((xs.map (·.1)).drop (j+1+1)) by rw[Ya HX.out,hq]);clear hq;go_upto_region 16 with (fail)
      go_region_held3 (fun X=>(Vj (.pointer (some ⟨b,off+j*21,none⟩))).run Tryz.prog X=.ok (.agg (Qb g u)) X/\(Vj (.pointer (some ⟨b,off+(j+1)*21,none⟩))).run Tryz.prog X=.ok (.agg (Qb f v)) X)
       (first|exact HZ.out _ hz4|exact HZ.out _ HB3.out.drew|exact HZ.out _ HB3.out|go_keep)
       (first|(go_at_call 54;refine(HCM.out _ (HK3.out _ HB3.out.drew).pw).mono ?_;rintro e w4 ⟨rfl,hb4⟩;have hz4:Below w3.1.size w3 w4:=HB3.out.drew.trans hb4))
      all_goals
       go_wp2_with fail
       go_roundw
       case rel=>exact⟨j+1+1,by omega,by go_num,(HK3.out _ hz4).bare,HQ2.out.symm⟩
       case measure=>simp[intOf];omega
  ·have HE:=jq (show res=0 by
    have:=HQ.out
    rw[List.drop_eq_nil_of_le (by rw[List.length_map];have:=HNW.out;omega)] at this;exact this.symm)
   obtain rfl:k=n:=by omega
   go_wp2_with fail
   first|go_ret|skip
   exact⟨Qa HE.out.symm,H.out.bl⟩
end
section
attribute [local go_sem] Oper.semAt_some
attribute [local go_sem ↓] Go.wp_at_zero Go.wp_at_succ Ql Qz YP Zco
def YPost(l:List Fct)(e2:Int)(w:World):Ending->World->Prop:=fun e w'=>
 ∃A c ys,e=.returned (.tuple #[.slice A ys.length c,.int .i64 e2])/\Own QF 21 43 w' w.1.size (.slice A ys.length c) ys/\ys.map (·.1)=l/\(∀y∈ys,FxM w' w'.1.size y)/\Below w.1.size w w'
theorem YPost.empty{w w1:World}{e2:Int}(hb:Below w.1.size w w1):YPost [] e2 w (.returned (.tuple #[.slice (some ⟨w1.1.size,0,none⟩) 0 0,.int .i64 e2])) (w1.alloc (.cells #[] 43)):=
 ⟨_,0,[],rfl,Own.lit (base:=w.1.size) (enc:=QF) (k:=21) w1 #[] 43 [] rfl Qc hb.size (by simp),rfl,fun y hy=>(by cases hy),hb.alloc hb.size _⟩
theorem YPost.of{l:List Fct}{w w1 w2:World}{A:Option Addr}{c:Nat}{ys:List Fx}(hb:Below w.1.size w w1)(ho:Own QF 21 43 w2 w1.1.size (.slice A ys.length c) ys)(hl:ys.map (·.1)=l)(hm:∀y∈ys,FxM w2 w2.1.size y)(h2:Below w1.1.size w1 w2):
 YPost l 0 w (.returned (.tuple #[.slice A ys.length c,.int .i64 0])) w2:=
 ⟨A,c,ys,rfl,ho.base_ hb.size,hl,hm,hb.trans (h2.mono hb.size)⟩
theorem Zmz(A:Option Addr)(n c:Nat)(xs:List Fx)(k:Int)(w:World)(hp:Env w)(hs:Fxs w w.1.size A n xs)(hn:n<=50000)(hc:n<=c)(hnil:A=none->c=0):
 Calls Tryz.prog 9 #[.slice A n c,.int .i64 k] w (YPost (ofR (xs.map (·.1)) k).1 (ofR (xs.map (·.1)) k).2 w):=by
 have HLC:=jq (Zk2 A n c xs w hp hs (by omega));have hof:ofR (xs.map (·.1)) k=if Zbx (xs.map (·.1))≠0 then([],1) else if k<0\/(((xs.map (·.1)).length:Nat):Int)<k then([],2) else(knR [] ((xs.map (·.1)).take k.toNat),0):=rfl
 rw[List.length_map,<-hs.len] at hof;generalize Zbx (xs.map (·.1))=lc at*;generalize ofR (xs.map (·.1)) k=res at*;generalize hpo:YPost res.1 res.2 w=post;have HPO:=jq hpo;have HS:=jq hs;have H:=jq (Kp.start hp);clear hpo
 by_cases h0:lc=0
 case neg=>
  rw[if_pos h0] at hof;have HRS:=jq hof;have hz:(lc !=0)=true:=by simp[h0]
  clear hof h0 hs hp;go_enter Tryz.func9,Tryz.ntmps9
  go_wp2_with (go_at_call 31;refine HLC.out.mono ?_;rintro e w1 ⟨rfl,hb1⟩;have hb0:=Xc w1)
  first|go_ret2|skip
  rw[<-HPO.out,HRS.out];exact YPost.empty hb1
 rw[if_neg (by simpa using h0)] at hof;subst h0
 by_cases hk0:k<0
 ·rw[if_pos (.inl hk0)] at hof;have HRS:=jq hof;clear hof hs hp;go_enter Tryz.func9,Tryz.ntmps9
  go_wp2_with (go_at_call 31;refine HLC.out.mono ?_;rintro e w1 ⟨rfl,hb1⟩;have hb0:=Xc w1)
  first|go_ret2|skip
  rw[<-HPO.out,HRS.out];exact YPost.empty hb1
 by_cases hk1:(n:Int)<k
 ·rw[if_pos (.inr hk1)] at hof;have HRS:=jq hof;clear hof hs hp;go_enter Tryz.func9,Tryz.ntmps9
  go_wp2_with (go_at_call 31;refine HLC.out.mono ?_;rintro e w1 ⟨rfl,hb1⟩;have hb0:=Xc w1)
  first|go_ret2|skip
  rw[<-HPO.out,HRS.out];exact YPost.empty hb1
 rw[if_neg (by omega)] at hof;obtain⟨kn,rfl⟩:∃kn:Nat,k=kn:=⟨k.toNat,by omega⟩
 rw[Int.toNat_natCast,<-List.map_take] at hof;have HRS:=jq hof;have hkn:kn<=n:=by omega
 have HKN:=jq (fun W (h:Kp w [] W)=>Zgx A kn c (xs.take kn) W h.pw (((hs.here h.bl)).upto hkn) (by omega));have hkc:kn<=c:=by omega
 have hnm:A=none->kn=0:=fun h=>by have:=hnil h;omega
 have hle:¬((n:Int)<(kn:Int)):=by omega
 have hkd:decide ((kn:Int)<0)=false:=decide_eq_false (by omega);clear hof hs hp hk0 hk1;go_enter Tryz.func9,Tryz.ntmps9
 go_wp2_with (first|(go_at_call 31;refine HLC.out.mono ?_;rintro e w1 ⟨rfl,hb1⟩)|(go_at_call 32;refine(HKN.out _ (H.out.here hb1)).mono ?_;rintro e w2 ⟨A2,c2,ys,rfl,ho2,hy2,hm2,hb2⟩))
 first|go_ret2|skip
 rw[<-HPO.out,HRS.out];exact YPost.of hb1 ho2 hy2 hm2 hb2
theorem Zgy(A:Option Addr)(n c:Nat)(xs:List Fx)(d:Int)(w:World)(hp:Env w)(hs:Fxs w w.1.size A n xs)(hn:n<=100000)(hc:n<=c)(hnil:A=none->c=0):
 Calls Tryz.prog 21 #[.slice A n c,.int .i64 d] w (YPost (Yx (xs.map (·.1)) d).1 (Yx (xs.map (·.1)) d).2 w):=by
 have HLC:=jq (XQ A n c xs w hp hs (by omega) hc hnil);have hof:Yx (xs.map (·.1)) d=if Xh (xs.map (·.1))≠0 then([],1) else if d< -25567\/84005<d then([],13) else((xs.map (·.1)).filter (fun f=>decide (f.day<=d)),0):=rfl
 generalize Xh (xs.map (·.1))=lc at*;generalize Yx (xs.map (·.1)) d=res at*;generalize hpo:YPost res.1 res.2 w=post;have HPO:=jq hpo;have HUT:=jq (fun W (h:Below w.1.size w W)=>Zij A n c xs d W (hs.here h) hn);clear hpo hs hp
 by_cases h0:lc=0
 case neg=>
  rw[if_pos h0] at hof;have HRS:=jq hof;have hz:(lc !=0)=true:=by simp[h0]
  clear hof h0;go_enter Tryz.func21,Tryz.ntmps21
  go_wp2_with (go_at_call 25;refine HLC.out.mono ?_;rintro e w1 ⟨rfl,hb1⟩;have hb0:=Xc w1)
  first|go_ret2|skip
  rw[<-HPO.out,HRS.out];exact YPost.empty hb1
 rw[if_neg (by simpa using h0)] at hof;subst h0
 by_cases hk0:d< -25567
 ·rw[if_pos (.inl hk0)] at hof;have HRS:=jq hof;clear hof;go_enter Tryz.func21,Tryz.ntmps21
  go_wp2_with (go_at_call 25;refine HLC.out.mono ?_;rintro e w1 ⟨rfl,hb1⟩;have hb0:=Xc w1)
  first|go_ret2|skip
  rw[<-HPO.out,HRS.out];exact YPost.empty hb1
 by_cases hk1:84005<d
 ·rw[if_pos (.inr hk1)] at hof;have HRS:=jq hof;clear hof;go_enter Tryz.func21,Tryz.ntmps21
  go_wp2_with (go_at_call 25;refine HLC.out.mono ?_;rintro e w1 ⟨rfl,hb1⟩;have hb0:=Xc w1)
  first|go_ret2|skip
  rw[<-HPO.out,HRS.out];exact YPost.empty hb1
 rw[if_neg (by omega)] at hof;have HRS:=jq hof;clear hof;go_enter Tryz.func21,Tryz.ntmps21
 go_wp2_with (first|(go_at_call 25;refine HLC.out.mono ?_;rintro e w1 ⟨rfl,hb1⟩)|(go_at_call 45;refine(HUT.out _ hb1).mono ?_;rintro e w2 ⟨A2,c2,ys,rfl,ho2,hy2,hm2,hb2⟩))
 first|go_ret2|skip
 rw[<-HPO.out,HRS.out];exact YPost.of hb1 ho2 hy2 hm2 hb2
end
section
attribute [local go_sem] Oper.semAt_some
attribute [local go_sem ↓] Go.wp_at_zero Go.wp_at_succ Ql Qz YP Zco
theorem ZgG(A:Option Addr)(n c:Nat)(xs:List Fx)(f:Fct)(v:FaV)(w:World)(hp:Env w)(hc:n<=c)(hnil:A=none->c=0)(hs:Fxs w w.1.size A n xs)(hn:n<=100000)(hf:FxM w w.1.size (f,v)):
 Calls Tryz.prog 23 #[.slice A n c,.agg (Qb f v)] w (YPost (YT (xs.map (·.1)) f).1 (YT (xs.map (·.1)) f).2 w):=by
 have H:=jq ((Kp.start hp).new w.1.size rfl (Qb f v) 43);have hof:YT (xs.map (·.1)) f=if Xh (xs.map (·.1))≠0 then([],1) else if Qt f≠0 then([],Qt f) else if 1000<(Zbp (xs.map (·.1)) f).length then([],4) else(Zbp (xs.map (·.1)) f,0):=by rw[Zku];rfl
 have HCK:=jq (fun W (hb:Below w.1.size w W)=>XQ A n c xs W (hp.here hb) (hs.here hb) (by omega) hc hnil);have HFC:=jq (fun W (hb:Below w.1.size w W)=>Zel (hp.here hb) (hf.here hb));have HNX:=jq (fun W (hb:Below w.1.size w W)=>Zik A n c xs f v W (hp.here hb) (hs.here hb) hn (hf.here hb));generalize Xh (xs.map (·.1))=lc at*;generalize YT (xs.map (·.1)) f=res at*;generalize Zbp (xs.map (·.1)) f=nx at*;generalize hpo:YPost res.1 res.2 w=post;have HPO:=jq hpo;have hl0:=Qj (H.out.at_ 0 rfl) (Qg f v);clear hpo hs hp hf
 by_cases h0:lc=0
 case neg=>
  rw[if_pos h0] at hof;have HRS:=jq hof;have hz:(lc !=0)=true:=by simp[h0]
  clear hof h0;go_enter Tryz.func23,Tryz.ntmps23
  go_wp2_with fail
  refine(HCK.out _ H.out.bl).mono ?_;rintro e w1 ⟨rfl,hb1⟩;have hb0:=Xc w1;go_wp2_with fail
  first|go_ret2|skip
  rw[<-HPO.out,HRS.out];exact YPost.empty (H.out.here hb1).bl
 rw[if_neg (by simpa using h0)] at hof;subst h0;go_enter Tryz.func23,Tryz.ntmps23
 go_wp2_with fail
 refine(HCK.out _ H.out.bl).mono ?_;rintro e w1 ⟨rfl,hb1⟩;have H1:=jq (H.out.here hb1);obtain⟨bf,hbf⟩:∃bf,w.1.size=bf:=⟨_,rfl⟩
 have HBF:=jq hbf;rw[hbf] at H1 ⊢;clear hl0 hb1 H HCK hbf;have hl1:=Qj (H1.out.at_ 0 rfl) (Qg f v);go_wp2_with fail
 refine(HFC.out _ H1.out.bl).mono ?_;rintro e w2 ⟨rfl,hb2⟩;have H2:=jq (H1.out.here hb2);have hl2:=Qj (H2.out.at_ 0 rfl) (Qg f v);clear hl1 hb2 H1 HFC;generalize Qt f=z at*
 by_cases hz:z=0
 case neg=>
  rw[if_pos hz] at hof;have HRS:=jq hof;have hz0:(z !=0)=true:=by simp[hz]
  have hb0:=Xc w2;clear hof hz;go_wp2_with fail
  first|go_ret2|skip
  rw[<-HPO.out,HRS.out];exact YPost.empty H2.out.bl
 rw[if_neg (by simpa using hz)] at hof;subst hz;go_wp2_with fail
 refine(HNX.out _ H2.out.bl).mono ?_;rintro e w3 ⟨A2,c2,ys,rfl,ho3,hy3,hm3,hb3⟩;have H3:=jq (H2.out.here hb3);have HO3:=jq ho3;have HY3:=jq hy3;have HM3:=jq hm3;have HB3:=jq hb3;have hlen:nx.length=ys.length:=by rw[<-hy3,List.length_map]
 rw[hlen] at hof;clear hl2 ho3 hy3 hm3 hb3 hlen
 by_cases h4:1000<ys.length
 ·rw[if_pos h4] at hof;have HRS:=jq hof;have hb0:=Xc w3;clear hof;go_wp2_with fail
  first|go_ret2|skip
  rw[<-HPO.out,HRS.out];exact YPost.empty H3.out.bl
 rw[if_neg h4] at hof;have HRS:=jq hof;clear hof;go_wp2_with fail
 first|go_ret2|skip
 rw[<-HPO.out,HRS.out];exact YPost.of H2.out.bl HO3.out HY3.out HM3.out HB3.out
end
end Go.Proofs.YtmfjmngebldanaaGreatDoor
