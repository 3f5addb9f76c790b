/- Ec. -/
import Derived.Test.YtokjnjdbnabchaaGreatDoorQGEp14
import Derived.Test.YtokjnjdbnabchaaGreatDoorQGEp43
set_option maxRecDepth 100000
set_option maxHeartbeats 4000000
namespace Go.Proofs.YtokjnjdbnabchaaGreatDoor
open Go.Lib renaming hid→jq
section
open Go.RowKit Go.Shelf
attribute [local go_sem] Oper.semAt_some
attribute [local go_sem ↓] Go.wp_at_zero Go.wp_at_succ
theorem Zbc(b n:Nat)(m:Ky×Ky->Option Fr)(w:World)(hp:Env w)(hb:PmB w b n (fun x=>(m x).map Qj))(hn:n<=1000000)(hsh:∀x,(m x).isSome=true->JY x):
 Calls Tryz.prog 59 #[.map (some b)] w fun e w'=>∃A c l,e=.returned (.slice A l.length c)/\Own S1 1 9 w' w.1.size (.slice A l.length c) l/\l.Pairwise (·< ·)/\(∀a,a∈l↔∃y,(m (a,y)).isSome=true)/\l.length<=n/\Below w.1.size w w':=by
 have HB:=jq hb;have H:=jq (Kp.start hp);have HSH:=jq hsh;have HBR:=jq hb.lt;clear hb hp hsh;go_enter Tryz.func59,Tryz.ntmps59
 go_wp2_with (first
  |(at_range;refine Yq rfl _ rfl Tryz.underlying80 rfl HB.out ?_;intro w0 cnt0 hr0 hc0 hg0 hs0)
  |go_in)
 go_frame
 have HR0:=jq hr0;have H0:=jq (show Kp w [] w0 from H.out.turned hg0 (fun r h=>by cases h) (Nat.le_refl _));clear hr0 hg0 HB H;obtain⟨r,hr⟩:∃r,w.1.size=r:=⟨_,rfl⟩
 have HR:=jq hr;rw[hr] at HR0 ⊢;clear hr
 go_loopw [3,4] (fun o _ wr=>∃(rem:Ky×Ky->Bool) (cnt:Nat) (Av:Option Addr) (cv:Nat) (ks:List Ky),o=.slice Av ks.length cv/\Hid (Kp w [] wr)/\Hid (PmR wr b r n (fun x=>(m x).map Qj) rem cnt)/\Hid (Own S1 1 9 wr (r+1) (.slice Av ks.length cv) ks)/\Hid (∀a,a∈ks↔∃y,(m (a,y)).isSome=true/\rem (a,y)=false)/\Hid (ks.length+cnt<=n)) (fun _ _ wr=>wr.rangeLeft b r)
 case atStart=>exact⟨_,cnt0,none,0,[],rfl,H0,HR0,Own.nil,(show ∀a,a∈([]:List Ky)↔∃y,(m (a,y)).isSome=true/\((m (a,y)).map Qj).isSome=false from fun a=>⟨fun h=>(by cases h),fun⟨y,h1,h2⟩=>by rw[Option.isSome_map,h1] at h2;cases h2⟩),(show 0+cnt0<=n by omega)⟩
 case round=>
  clear H0 HR0;obtain⟨rem,cnt,Av,cv,ks,rfl,H,HQ,HO,HM,HN⟩:=hrel
  go_wp2_with (first
   |(at_next;refine YF rfl _ rfl rfl HQ.out ?_ ?_)
   |go_in)
  ·intro hl0;have HL0:=jq hl0;have HSO:=jq (Zcv (r+1) Av cv ks wr HO.out (by have:=HN.out;omega));clear hl0;go_wp2_with fail
   refine HSO.out.mono ?_;rintro e w2 ⟨rfl,ho2,hg2⟩;have HCO:=jq (Zcw (r+1) Av cv (Xg ks) w2 ho2 (by rw[YV];have:=HN.out;omega));rw[Zhr] at HCO;have HG2:=jq hg2;rw[YV] at HCO;clear ho2 hg2;go_wp2_with fail
   refine HCO.out.mono ?_;rintro e w3 ⟨rfl,ho3,hg3⟩;have HO3:=jq ho3;have HG3:=jq hg3;clear ho3 hg3;go_wp2_with fail
   first|go_ret|skip
   have hob:∀g,(Value.slice Av ks.length cv).ownBlock=some g->r+1<=g:=fun g e=>by
    cases Av with
    |none=>cases e
    |some a=>cases e;exact HO.out.room.2.2 a rfl
   have h1:=HR.out;have hb2:=QR (B:=w.1.size) HG2.out H.out.bl.size (show w.1.size<=r+1 by omega) (fun g e=>hob g e);have hb3:=QR (B:=w.1.size) HG3.out (Nat.le_trans H.out.bl.size hb2.size) (show w.1.size<=r+1 by omega) (fun g e=>hob g e);exact⟨Av,cv,Vp ks,rfl,HO3.out.base_ (by omega),VA _,fun a=>(Vz a ks).trans ((HM.out a).trans ⟨fun⟨y,h1,_⟩=>⟨y,h1⟩,fun⟨y,h1⟩=>⟨y,h1,HL0.out a y (HSH.out (a,y) h1)⟩⟩),Nat.le_trans (ZcM ks) (by have:=HN.out;omega),(H.out.bl.trans hb2).trans hb3⟩
  ·intro xa xb v w1 cnt1 hx hrem rr hMr hrv hr1 hlt1 hg1 hs1 hen;generalize hxe:(xa,xb)=x at*;subst hrv
   have hob:∀g,(Value.slice Av ks.length cv).ownBlock=some g->r+1<=g:=fun g e=>by
    cases Av with
    |none=>cases e
    |some a=>cases e;exact HO.out.room.2.2 a rfl
   have HO1:=jq (HO.out.grown hg1 (.inr (fun e=>by have:=hob r e;omega)));have HK1:=jq (H.out.turn hg1 (by have:=HR.out;omega));have HQ1:=jq hr1;have HX:=jq (show rem x=true/\(m x).isSome=true/\cnt1<cnt from⟨hrem,by rw[hMr];rfl,hlt1⟩);clear hrem hr1 hlt1 hg1 hs1 hx hMr hxe;unfold pv Qj S at hen;have HB2:=jq (HK1.out.new w1.1.size rfl (pvB x) 122);have HQ2:=jq (HQ1.out.grown (World.grownBy_alloc w1 (.cells (pvB x) 122) none) (by simp) (by simp));have HO2:=jq (HO1.out.alloc (.cells (pvB x) 122));unfold pvB at HB2 HQ2 HO2;go_upto_region 5 with (fail)
   generalize w1.alloc _=W2 at*;generalize w1.1.size=b1 at*;clear hen HK1 HQ1 HO1;have c0:=HB2.out.c 0 0 rfl (show(#[.string ⟨x.1.toArray⟩,.string ⟨x.2.toArray⟩]:Array Value)[0]?=some (.string ⟨x.1.toArray⟩) from rfl);have HOA:=jq (HO2.out.alloc (.cells #[.string ⟨x.1.toArray⟩] 9));have HSL:=jq (Zd6 (heap_alloc_new W2 (.cells #[.string ⟨x.1.toArray⟩] 9)));have HBA:=jq (HB2.out.alloc (.cells #[.string ⟨x.1.toArray⟩] 9)).bare;have HQA:=jq (HQ2.out.grown (World.grownBy_alloc W2 (.cells #[.string ⟨x.1.toArray⟩] 9) none) (by simp) (by simp));have HRS:=jq (show r+1<=(W2.alloc (.cells #[.string ⟨x.1.toArray⟩] 9)).heap.size from HQA.out.lt);have HKL:=jq (show ks.length+1<=100000000000 by have:=HN.out;omega);clear HB2 HQ2 HO2
   go_wp2_with (first
    |(at_builtin;refine QJ _ rfl (.tmp 11) (.tmp 14) _ rfl Zam XY ZbO (base:=r+1) (.slice Av ks.length cv) ks rfl HOA.out _ _ 1 1 [x.1] rfl HSL.out HKL.out HRS.out ?_
      intro A3 c3 w3 ho3 hg3 _)
    |go_in)
   have HK3:=jq (HBA.out.lowK (QR (B:=w.1.size) hg3 HBA.out.bl.size (show w.1.size<=r+1 by have:=HR.out;omega) (fun g e=>hob g e)));have HQ3:=jq (HQA.out.grown hg3 (fun e=>by have:=hob b e.symm;have:=HBR.out;have:=HR.out;omega) (fun e=>by have:=hob r e.symm;omega));have HO3:=jq ho3;have HE:ks.length+1=(ks++[x.1]).length:=by rw[List.length_append];rfl
   rw[HE] at HO3 ⊢;clear ho3 hg3 HE;go_wp2_with fail
   go_roundw
   case rel=>
    refine⟨_,cnt1,A3,c3,ks++[x.1],rfl,HK3,HQ3,HO3,(show ∀a,a∈ks++[x.1]↔∃y,(m (a,y)).isSome=true/\(rem (a,y)&& !decide ((a,y)=x))=false from fun a=> ?_),(show(ks++[x.1]).length+cnt1<=n by rw[List.length_append,List.length_singleton];have:=HN.out;have:=HX.out.2.2;omega)⟩;rw[List.mem_append,List.mem_singleton,HM.out a]
    constructor
    ·rintro(⟨y,h1,h2⟩|rfl)
     ·exact⟨y,h1,by rw[h2];rfl⟩
     ·exact⟨x.2,HX.out.2.1,by simp⟩
    ·rintro⟨y,h1,h2⟩
     by_cases e:(a,y)=x
     ·exact .inr (by rw[<-e])
     ·exact .inl ⟨y,h1,by simpa[e] using h2⟩
   case measure=>rw[HQ3.out.left,HQ.out.left];exact HX.out.2.2
end
end Go.Proofs.YtokjnjdbnabchaaGreatDoor
