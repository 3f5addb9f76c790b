/- Y2, Y3, Y4. -/
import Derived.Test.YtmfjmngebldanaaGreatDoorQGVe10
import Derived.Test.YtmfjmngebldanaaGreatDoorQGVe42
set_option maxRecDepth 100000
set_option maxHeartbeats 4000000
namespace Go.Proofs.YtmfjmngebldanaaGreatDoor
open Go.Lib renaming hid→jq
open Go.RowKit Go.Shelf
section
attribute [local go_sem] Oper.semAt_some
attribute [local go_sem ↓] Go.wp_at_zero Go.wp_at_succ Ql Qz YP Zco
theorem ZdB(A:Option Addr)(n c:Nat)(xs:List Fx)(f:Fct)(v:FaV)(w:World)(hp:Env w)(hcap:n<=c)(hs:Fxs w w.1.size A n xs)(hn:n<=100000)(hf:FxM w w.1.size (f,v)):
 Calls Tryz.prog 64 #[.slice A n c,.agg (Qb f v)] w (Vh (Jm (xs.map (·.1)) f) w):=by
 have H:=jq ((Kp.start hp).new w.1.size rfl (Qb (Xk f) v) 43);have HS:=jq hs;have HF:=jq hf;have HW:=jq (show Jm (xs.map (·.1)) f=(xs.map (·.1)).take (Zcr (xs.map (·.1)) (Xk f))++Xk f::(xs.map (·.1)).drop (Zcr (xs.map (·.1)) (Xk f)) from rfl);generalize hpo:Vh (Jm (xs.map (·.1)) f) w=post;have HPO:=jq hpo;have HB0:=jq (show w.1.size<=w.1.size from Nat.le_refl _);clear hpo hp hs hf;go_enter Tryz.func64,Tryz.ntmps64
 go_upto_region 2 with (fail)
 rw[Zaa];generalize w.alloc (.cells (Qb (Xk f) v) 43)=W1 at*;obtain⟨bf,hbf⟩:∃bf,w.1.size=bf:=⟨_,rfl⟩
 have HBF:=jq hbf;rw[hbf] at H ⊢;clear hbf;go_wp2_with fail
 go_loopw [5] (fun i wr=>∃k:Nat,k<=n/\i=.int .i64 k/\Hid (Kp w [(bf,Qb (Xk f) v,43)] wr)/\Hid (∀x∈(xs.map (·.1)).take k,QH x (Xk f)<0)) (fun i _=>n-(intOf i).toNat)
 case atStart=>exact⟨0,Nat.zero_le _,rfl,H,(show ∀x∈(xs.map (·.1)).take 0,QH x (Xk f)<0 from fun x hx=>by simp at hx)⟩
 case round=>
  clear H;obtain⟨k,hk,rfl,H,HC⟩:=hrel
  have hl:=Qj (H.out.at_ 0 rfl) (Qg (Xk f) v);have HZF:=jq (ZeL (HF.out.here H.out.bl));go_upto_region 3 with (fail)
  go_cut [20] (fun bb wc=>∃z:Bool,bb=.bool z/\Hid ((z=true/\k<n/\∀x∈(xs.map (·.1)).take (k+1),QH x (Xk f)<0)\/(z=false/\Zcr (xs.map (·.1)) (Xk f)=k))/\Hid (Kp w [(bf,Qb (Xk f) v,43)] wc))
  case first=>
   by_cases hlt:k<n
   ·obtain⟨b,off,g,u,rfl,hb,hx,hm,hr⟩:=(HS.out.here H.out.bl).at_ hlt
    have hxg:(xs.map (·.1))[k]?=some g:=by rw[List.getElem?_map,hx];rfl
    have HXG:=jq hxg;have hS:=jq (fun X (h:Bz wr X)=>(show(Vj (.pointer (some ⟨b,off+k*21,none⟩))).run Tryz.prog X=.ok (.agg (Qb g u)) X/\(Vj (.pointer (some ⟨bf,0,none⟩))).run Tryz.prog X=.ok (.agg (Qb (Xk f) v)) X from⟨Qi (Qu hr h hb),Qj ((H.out.here h).at_ 0 rfl) (Qg (Xk f) v)⟩));have hld:=Qi hr;have HCM:=jq (fun X (h:Bz wr X)=>ZaE g (Xk f) u v X (H.out.here h).pw);generalize hzc:QH g (Xk f)=zc at*;have HZC:=jq hzc;have hz0:Bz wr wr:=Bz.refl wr;have i1:(k:Int)<(n:Int):=by omega
    clear hx hr hb hm hxg hzc
    go_region_held3 (fun X=>(Vj (.pointer (some ⟨b,off+k*21,none⟩))).run Tryz.prog X=.ok (.agg (Qb g u)) X/\(Vj (.pointer (some ⟨bf,0,none⟩))).run Tryz.prog X=.ok (.agg (Qb (Xk f) v)) X)
     (first|(exact hS.out _ (by repeat' (first|assumption|exact Bz.refl _|refine Bz.drew ?_|refine Bz.alloc ?_ _|refine Bz.set ?_ (by first|assumption|exact Nat.le_refl _|exact Bz.size (by assumption)) _ _)))|go_keep)
     (first
       |(go_at_call 54;refine(HCM.out _ (by repeat' (first|assumption|exact Bz.refl _|refine Bz.drew ?_|refine Bz.alloc ?_ _|refine Bz.set ?_ (by first|assumption|exact Nat.le_refl _|exact Bz.size (by assumption)) _ _))).mono ?_;rintro e w6 ⟨rfl,hb6⟩;have hz1:Bz wr w6:=Bz.call (by repeat' (first|assumption|exact Bz.refl _|refine Bz.drew ?_|refine Bz.alloc ?_ _|refine Bz.set ?_ (by first|assumption|exact Nat.le_refl _|exact Bz.size (by assumption)) _ _)) hb6))
    all_goals
     go_wp2_with fail
     go_meet
     refine⟨decide (zc<0),rfl,?_,H.out.here hz1⟩
     by_cases hz:zc<0
     ·refine .inl ⟨decide_eq_true hz,hlt,fun x hx=> ?_⟩;rw[Vv HXG.out] at hx
      rcases List.mem_append.1 hx with hx|hx
      ·exact HC.out x hx
      ·rw[List.mem_singleton.1 hx,HZC.out];exact hz
     ·refine .inr ⟨decide_eq_false hz,Zgf (by rw[List.length_map,<-HS.out.len];exact hk) HC.out fun x hx=> ?_⟩;rw[HXG.out] at hx;rw[<-Option.some.inj hx,HZC.out];exact hz
   ·have i1:¬(k:Int)<(n:Int):=by omega
    go_region
    all_goals
     go_wp2_with fail
     go_meet
     refine⟨false,rfl,.inr ⟨rfl,Zgf (by rw[List.length_map,<-HS.out.len];exact hk) HC.out fun x hx=> ?_⟩,(by first|exact H|exact H.out.drew|exact H.out.drewN _)⟩;have:=(List.getElem?_eq_some_iff.1 hx).1
     rw[List.length_map,<-HS.out.len] at this;omega
  case rest=>
  obtain⟨z,rfl,HZ,HK⟩:=hcut
  cases z with
  |true=>
   have HZ2:=jq (HZ.out.resolve_right (fun h=>by cases h.1));have hkl:k<n:=HZ2.out.2.1;go_wp2_with fail
   go_roundw
   case rel=>exact⟨k+1,by omega,by go_num,HK,HZ2.out.2.2⟩
   case measure=>simp[intOf];omega
  |false=>
   have HZ2:=jq (HZ.out.resolve_left (fun h=>by cases h.1));have HPL:=jq HZ2.out.2;have HKC:=jq (HS.out.here HK.out.bl);clear HZ HZ2 H HC hl;have hkc:k<=c:=by omega
   have hb0:=Xc wc;have et:(xs.take k).length=k:=by rw[List.length_take,<-HS.out.len];omega
   have HET:=jq et;have HWC:=jq (show w.1.size<=wc.1.size from HK.out.bl.size);have HBL:=jq (HK.out.lt 0 rfl);have HSA:=jq ((HKC.out.upto hk).sl.here ((Below.refl wc.1.size wc).alloc (Nat.le_refl _) (.cells #[] 43)));have HOA:=jq (Own.lit (base:=wc.1.size) (enc:=QF) (k:=21) wc #[] 43 [] rfl Qc (Nat.le_refl _) (by simp));have HSB:=jq (show wc.1.size<=(wc.alloc (.cells #[] 43)).heap.size by simp);have HKA:=jq (HK.out.alloc (.cells #[] 43));have HZS:=jq (show(wc.alloc (.cells #[] 43)).heap.size=wc.1.size+1 by simp);clear et;generalize hW2:wc.alloc (.cells #[] 43)=W2 at*;have hsl:=fun W=>Zl2 W A n c k hk
   have HKD:=jq (fun W (hb:Below wc.1.size wc W)=>((HKC.out.here hb).cut (c:=c) hk hcap).sl)
   go_wp2_with (first
    |(at_builtin;refine Qs _ rfl (.tmp 23) (.tmp 26) _ rfl QO Qc QV (base:=wc.1.size) (.slice (some ⟨wc.1.size,0,none⟩) 0 0) [] rfl HOA.out _ _ k c (xs.take k) rfl HSA.out (by simp;omega) HSB.out ?_
      intro A3 c3 w3 ho3 hg3 _;rw[List.length_nil,Nat.zero_add] at ho3 ⊢;rw[List.nil_append] at ho3;have HO3:=jq ho3;have HB3:=jq (Qn (B:=wc.1.size) hg3 (by have:=HZS.out;omega) (Nat.le_refl _) (fun r e=>by simp[Value.ownBlock] at e;omega))
      have HB3b:=jq (show Below wc.1.size wc w3 by
       have h:=(Below.refl wc.1.size wc).alloc (Nat.le_refl _) (.cells #[] 43);rw[hW2] at h;exact h.trans HB3.out)
      have H3:=jq (HKA.out.low HB3.out HWC.out (fun b hb=>by rw[List.mem_singleton.1 hb];exact HBL.out));have hl3:=Qj (H3.out.at_ 0 rfl) (Qg (Xk f) v);have hb1:=Vo w3 (Xk f) v;have HO4:=jq (HO3.out.alloc (.cells (Qb (Xk f) v) 43));have HB4:=jq (HB3b.out.alloc HB3b.out.size (.cells (Qb (Xk f) v) 43));have HSL:=jq (Za0 (f:=Xk f) (v:=v) (heap_alloc_new w3 (.cells (Qb (Xk f) v) 43)))
      have HFR3:=jq (show ∀r,(Value.slice A3 k c3).ownBlock=some r->wc.1.size<=r from fun r e=>by
       obtain⟨_,_,_,_,_,_,h5⟩:=HO3.out.form
       exact(h5 r e).2.1)
      clear ho3 hg3)
    |(at_builtin;refine Qs _ rfl (.tmp 28) (.tmp 30) _ rfl QO Qc QV (base:=wc.1.size) (.slice A3 k c3) (xs.take k) rfl HO4.out _ _ 1 1 [(Xk f,v)] rfl HSL.out (by have:=HET.out;omega) HB4.out.size ?_
      intro A5 c5 w5 ho5 hg5 _;rw[HET.out] at ho5 ⊢;have HO5:=jq ho5;have HB5:=jq (HB4.out.trans (Qn hg5 HB4.out.size (Nat.le_refl _) HFR3.out))
      have HFR5:=jq (show ∀r,(Value.slice A5 (k+1) c5).ownBlock=some r->wc.1.size<=r from fun r e=>by
       have h:=HO5.out.room.2.2
       cases A5 with
       |none=>cases e
       |some a=>cases e;exact h a rfl)
      have HSD:=jq (HKD.out _ HB5.out);clear ho5 hg5)
    |(at_builtin;refine Qs _ rfl (.tmp 32) (.tmp 35) _ rfl QO Qc QV (base:=wc.1.size) (.slice A5 (k+1) c5) (xs.take k++[(Xk f,v)]) rfl HO5.out _ _ (n-k) (c-k) (xs.drop k) rfl HSD.out (by rw[List.length_append,HET.out];show k+1+(n-k)<=100000000000;omega) HB5.out.size ?_
      intro A7 c7 w7 ho7 hg7 _;rw[show(xs.take k++[(Xk f,v)]).length+(n-k)=n+1 by rw[List.length_append,HET.out];show k+1+(n-k)=n+1;omega] at ho7 ⊢;have HO7:=jq ho7;have HB7:=jq (HB5.out.trans (Qn hg7 HB5.out.size (Nat.le_refl _) HFR5.out));clear ho7 hg7))
   first|go_ret|skip
   rw[<-HPO.out];have hyl:n+1=(xs.take k++[(Xk f,v)]++xs.drop k).length:=HO7.out.facts.1;have hbw:Below w.1.size w w7:=HK.out.bl.trans (HB7.out.mono HWC.out);refine⟨A7,c7,xs.take k++[(Xk f,v)]++xs.drop k,by rw[<-hyl];rfl,(by rw[<-hyl];exact HO7.out.base_ HWC.out),?_,fun y hy=> ?_,hbw⟩
   ·rw[HW.out,HPL.out,List.map_append,List.map_append,List.map_take,List.map_drop,List.append_assoc];rfl
   ·rcases List.mem_append.1 hy with hy|hy
    ·rcases List.mem_append.1 hy with hy|hy
     ·exact(HS.out.all y (List.mem_of_mem_take hy)).here hbw
     ·rw[List.mem_singleton.1 hy];exact ZeL (HF.out.here hbw)
    ·exact(HS.out.all y (List.mem_of_mem_drop hy)).here hbw
end
section
attribute [local go_sem] Oper.semAt_some
attribute [local go_sem ↓] Go.wp_at_zero Go.wp_at_succ Ql Qz YP Zco
theorem Zij(A:Option Addr)(n c:Nat)(xs:List Fx)(d:Int)(w:World)(hs:Fxs w w.1.size A n xs)(hn:n<=100000):
 Calls Tryz.prog 45 #[.slice A n c,.int .i64 d] w (Vh ((xs.map (·.1)).filter fun f=>decide (f.day<=d)) w):=by
 have HS:=jq hs;generalize hpo:Vh ((xs.map (·.1)).filter fun f=>decide (f.day<=d)) w=post;have HPO:=jq hpo;have hb0:=Xc w;have HO0:=jq (Own.lit (base:=w.1.size) (enc:=QF) (k:=21) w #[] 43 [] rfl Qc (Nat.le_refl _) (by simp));have HB0:=jq ((Below.refl w.1.size w).alloc (Nat.le_refl _) (.cells #[] 43));clear hpo hs;go_enter Tryz.func45,Tryz.ntmps45
 go_upto_region 2 with (fail)
 generalize w.alloc _=W1 at*;clear hb0;go_wp2_with fail
 go_loopw [5,6] (fun o i wr=>∃(k:Nat) (A1:Option Addr) (c1:Nat) (ys:List Fx),k<=n/\o=.slice A1 ys.length c1/\i=.int .i64 k/\Hid (Below w.1.size w wr)/\Hid (Own QF 21 43 wr w.1.size (.slice A1 ys.length c1) ys)/\Hid (ys.map (·.1)=((xs.map (·.1)).take k).filter (fun f=>decide (f.day<=d)))/\Hid (∀y∈ys,y∈xs)) (fun _ i _=>n-(intOf i).toNat)
 case atStart=>exact⟨0,some ⟨w.1.size,0,none⟩,0,[],Nat.zero_le _,rfl,rfl,HB0,HO0,rfl,(show ∀y∈([]:List Fx),y∈xs from fun y hy=>by cases hy)⟩
 case round=>
  clear HB0 HO0;obtain⟨k,A1,c1,ys,hk,rfl,rfl,HB,HO,HY,HM⟩:=hrel
  by_cases hlt:k<n
  ·obtain⟨b,off,f,v,rfl,hb,hx,hm,hr⟩:=(HS.out.below HB.out).at_ hlt
   have hld:=Qi hr;have d3:wr.cell? ⟨b,off+k*21+3,none⟩=some (.int .i64 f.day):=hr 3 _ rfl;have HX:=jq hx
   have HYL:=jq (show ys.length<=100000 by
    have h1:=congrArg List.length HY.out;rw[List.length_map] at h1;have h2:=List.length_filter_le (fun f:Fct=>decide (f.day<=d)) ((xs.map (·.1)).take k);rw[List.length_take] at h2;omega)
   clear hx hr hb hm
   by_cases hd:f.day<=d
   ·have HYN:=jq (Zcv (p:=fun f=>decide (f.day<=d)) HX.out (decide_eq_true hd));have hbf:=Vo wr f v;have HSL:=jq (Za0 (f:=f) (v:=v) (heap_alloc_new wr (.cells (Qb f v) 43)));have HO2:=jq (HO.out.alloc (.cells (Qb f v) 43));have HB2:=jq (HB.out.alloc HB.out.size (.cells (Qb f v) 43));have HFR:=jq HO2.out.room.2.2
    go_wp2_with (at_builtin;refine Qs _ rfl (.tmp 21) (.tmp 26) _ rfl QO Qc QV (base:=w.1.size) (.slice A1 ys.length c1) ys rfl HO2.out _ _ 1 1 [(f,v)] rfl HSL.out (by have:=HYL.out;omega) HB2.out.size ?_;intro A2 c2 w2 ho2 hg2 _;have HO3:=jq ho2;have HG2:=jq (Qn hg2 HB2.out.size (Nat.le_refl _) (fun r e=>by
     cases A1 with
     |none=>cases e
     |some a=>cases e;exact HFR.out a rfl));clear ho2 hg2)
    go_roundw
    case rel=>
     refine⟨k+1,A2,c2,ys++[(f,v)],by omega,by rw[List.length_append];rfl,by go_num,HB2.out.trans HG2.out,(by have h:=HO3.out;rw[List.length_append];exact h),(show _=_ by rw[List.map_append,HY.out,HYN.out];rfl),fun y hy=> ?_⟩
     rcases List.mem_append.1 hy with hy|hy
     ·exact HM.out y hy
     ·rw[List.mem_singleton.1 hy];exact List.mem_of_getElem? HX.out
    case measure=>simp[intOf];omega
   ·have HYN:=jq (Zcw (p:=fun f=>decide (f.day<=d)) HX.out (decide_eq_false hd));go_wp2_with fail
    go_roundw
    case rel=>exact⟨k+1,A1,c1,ys,by omega,rfl,by go_num,HB,HO,(show _=_ by rw[HY.out,HYN.out]),HM⟩
    case measure=>simp[intOf];omega
  ·obtain rfl:k=n:=by omega
   have HYN:=jq (show ys.map (·.1)=(xs.map (·.1)).filter (fun f=>decide (f.day<=d)) by have h:=HY.out;rwa [List.take_of_length_le (by rw[List.length_map,<-HS.out.len];exact Nat.le_refl _)] at h);go_wp2_with fail
   first|go_ret|skip
   rw[<-HPO.out];exact⟨A1,c1,ys,rfl,HO.out,HYN.out,fun y hy=>(HS.out.all y (HM.out y hy)).here HB.out,HB.out⟩
theorem Zik(A:Option Addr)(n c:Nat)(xs:List Fx)(f:Fct)(v:FaV)(w:World)(hp:Env w)(hs:Fxs w w.1.size A n xs)(hn:n<=100000)(hf:FxM w w.1.size (f,v)):
 Calls Tryz.prog 53 #[.slice A n c,.agg (Qb f v)] w (Vh (Zbp (xs.map (·.1)) f) w):=by
 have HS:=jq hs;have HF:=jq hf;have hnx:Zbp (xs.map (·.1)) f=if f.cancelled=true then(xs.map (·.1)).filter (fun x=>x.key !=f.key) else Jm ((xs.map (·.1)).filter fun x=>x.key !=f.key) f:=rfl
 have HNX:=jq hnx;generalize hpo:Vh (Zbp (xs.map (·.1)) f) w=post;have HPO:=jq hpo;have H0:=jq ((Kp.start hp).new w.1.size rfl (Qb f v) 43);have hb0:=Xc (w.alloc (.cells (Qb f v) 43));have HO0:=jq (Own.lit (base:=w.1.size+1) (enc:=QF) (k:=21) (w.alloc (.cells (Qb f v) 43)) #[] 43 [] rfl Qc (by simp) (by simp));have H:=jq (H0.out.alloc (.cells #[] 43));rw[show(w.alloc (.cells (Qb f v) 43)).heap.size=w.1.size+1 by simp] at hb0 HO0;clear hpo hs hf hp hnx H0;go_enter Tryz.func53,Tryz.ntmps53
 go_upto_region 2 with (fail)
 generalize (w.alloc (.cells (Qb f v) 43)).alloc (.cells #[] 43)=W1 at*;clear hb0;obtain⟨bf,hbf⟩:∃bf,w.1.size=bf:=⟨_,rfl⟩
 have HBF:=jq hbf;rw[hbf] at H HO0 ⊢;clear hbf;go_wp2_with fail
 go_loopw [5,6] (fun o i wr=>∃(k:Nat) (A1:Option Addr) (c1:Nat) (ys:List Fx),k<=n/\o=.slice A1 ys.length c1/\i=.int .i64 k/\Hid (Kp w [(bf,Qb f v,43)] wr)/\Hid (Own QF 21 43 wr (bf+1) (.slice A1 ys.length c1) ys)/\Hid (ys.map (·.1)=((xs.map (·.1)).take k).filter (fun x=>x.key !=f.key))/\Hid (∀y∈ys,y∈xs)) (fun _ i _=>n-(intOf i).toNat)
 case atStart=>exact⟨0,some ⟨bf+1,0,none⟩,0,[],Nat.zero_le _,rfl,rfl,H,HO0,rfl,(show ∀y∈([]:List Fx),y∈xs from fun y hy=>by cases hy)⟩
 case round=>
  clear H HO0;obtain⟨k,A1,c1,ys,hk,rfl,rfl,H,HO,HY,HM⟩:=hrel
  have HYL:=jq (show ys.length<=100000 by
   have h1:=congrArg List.length HY.out;rw[List.length_map] at h1;have h2:=List.length_filter_le (fun x:Fct=>x.key !=f.key) ((xs.map (·.1)).take k);rw[List.length_take] at h2;omega)
  by_cases hlt:k<n
  ·obtain⟨b,off,g,u,rfl,hb,hx,hm,hr⟩:=(HS.out.below H.out.bl).at_ hlt
   have hld:=Qi hr;have d0:wr.cell? ⟨b,off+k*21,none⟩=some (.string ⟨g.key.toArray⟩):=by have h:=hr 0 _ rfl;rw[Nat.add_zero] at h;exact h
   have x0:=H.out.c 0 0 rfl (show(Qb f v)[0]?=some (.string ⟨f.key.toArray⟩) from rfl);have HX:=jq hx;have i1:(k:Int)<(n:Int):=by omega
   have HRR:=jq (And.intro hr hb);clear hx hr hb hm
   by_cases hd:g.key=f.key
   ·have HYN:=jq (Zcw (p:=fun x=>x.key !=f.key) HX.out (by simp[hd]));have he:(g.key==f.key)=true:=by simp[hd]
    clear hd;go_upto_region 5 with (fail)
    go_region_held3 (fun X=>X.cell? ⟨b,off+k*21,none⟩=some (.string ⟨g.key.toArray⟩)/\X.cell? ⟨bf,0,none⟩=some (.string ⟨f.key.toArray⟩)) (go_keep) (fail)
    all_goals
     go_wp2_with fail
     go_roundw
     case rel=>exact⟨k+1,A1,c1,ys,by omega,rfl,by go_num,H.out.drew,HO.out.drew,(show _=_ by rw[HY.out,HYN.out]),HM⟩
     case measure=>simp[intOf];omega
   ·have HYN:=jq (Zcv (p:=fun x=>x.key !=f.key) HX.out (by simpa using hd));have he:(g.key==f.key)=false:=by simp[hd]
    clear hd;go_upto_region 5 with (fail)
    go_region_held3 (fun X=>X.cell? ⟨b,off+k*21,none⟩=some (.string ⟨g.key.toArray⟩)/\X.cell? ⟨bf,0,none⟩=some (.string ⟨f.key.toArray⟩)) (go_keep) (fail)
    all_goals
     have hld2:=Qi (w:=wr.drew) HRR.out.1;have Hd:=jq H.out.drew;have HOd:=jq HO.out.drew;clear hld d0 x0 HRR H HO;generalize wr.drew=wd at*;have hbf:=Vo wd g u;have HSL:=jq (Za0 (f:=g) (v:=u) (heap_alloc_new wd (.cells (Qb g u) 43)));have HO2:=jq (HOd.out.alloc (.cells (Qb g u) 43));have H2:=jq (Hd.out.alloc (.cells (Qb g u) 43));have HFR:=jq HO2.out.room.2.2;have HSZ:=jq (show bf+1<=(wd.alloc (.cells (Qb g u) 43)).heap.size by have:=Hd.out.lt 0 rfl;simp;omega)
     go_wp2_with (at_builtin;refine Qs _ rfl (.tmp 22) (.tmp 27) _ rfl QO Qc QV (base:=bf+1) (.slice A1 ys.length c1) ys rfl HO2.out _ _ 1 1 [(g,u)] rfl HSL.out (by have:=HYL.out;omega) HSZ.out ?_;intro A2 c2 w2 ho2 hg2 _;have HO3:=jq ho2;have HG2:=jq (Qn (B:=bf+1) hg2 HSZ.out (Nat.le_refl _) (fun r e=>by
      cases A1 with
      |none=>cases e
      |some a=>cases e;exact HFR.out a rfl));clear ho2 hg2)
     go_roundw
     case rel=>
      refine⟨k+1,A2,c2,ys++[(g,u)],by omega,by rw[List.length_append];rfl,by go_num,H2.out.low HG2.out (by have:=HBF.out;omega) (fun b hb=>by rw[List.mem_singleton.1 hb];exact Nat.lt_succ_self _),(by have h:=HO3.out;rw[List.length_append];exact h),(show _=_ by rw[List.map_append,HY.out,HYN.out];rfl),fun y hy=> ?_⟩
      rcases List.mem_append.1 hy with hy|hy
      ·exact HM.out y hy
      ·rw[List.mem_singleton.1 hy];exact List.mem_of_getElem? HX.out
     case measure=>simp[intOf];omega
  ·obtain rfl:k=n:=by omega
   have HYN:=jq (show ys.map (·.1)=(xs.map (·.1)).filter (fun x=>x.key !=f.key) by have h:=HY.out;rwa [List.take_of_length_le (by rw[List.length_map,<-HS.out.len];exact Nat.le_refl _)] at h);have x2:=H.out.c 0 2 rfl (show(Qb f v)[2]?=some (.bool f.cancelled) from rfl);have HYF:=jq (show Fxs wr wr.1.size A1 ys.length ys from⟨HO.out.sl Qc,fun y hy=>(HS.out.all y (HM.out y hy)).here H.out.bl⟩);have HNE:=HNX.out;have HBW:=jq (show w.1.size<=bf+1/\w.1.size<=wr.1.size from⟨by have:=HBF.out;omega,H.out.bl.size⟩);have i1:¬(k:Int)<(k:Int):=by omega
   cases hcn:f.cancelled with
   |true=>
    rw[hcn] at x2;rw[if_pos hcn] at HNE;have HN2:=jq HNE;clear HNE hcn;go_wp2_with fail
    first|go_ret|skip
    rw[<-HPO.out];exact⟨A1,c1,ys,rfl,HO.out.base_ HBW.out.1,by rw[HN2.out,HYN.out],HYF.out.all,H.out.bl⟩
   |false=>
    rw[hcn] at x2;rw[if_neg (by rw[hcn];decide)] at HNE;have HN2:=jq HNE;clear HNE hcn;have hl:=Qj (H.out.at_ 0 rfl) (Qg f v);have HWI:=jq (ZdB A1 ys.length c1 ys f v wr H.out.pw HO.out.room.1 HYF.out (by have:=HYL.out;omega) (HF.out.here H.out.bl));rw[HYN.out,<-HN2.out] at HWI;unfold Vh at HWI;go_wp2_with fail
    refine HWI.out.mono ?_;rintro e w2 ⟨A2,c2,zs,rfl,ho2,hz2,hm2,hb2⟩;go_wp2_with fail
    first|go_ret|skip
    rw[<-HPO.out];exact⟨A2,c2,zs,rfl,ho2.base_ HBW.out.2,hz2,hm2,(H.out.here hb2).bl⟩
end
section
attribute [local go_sem] Oper.semAt_some
attribute [local go_sem ↓] Go.wp_at_zero Go.wp_at_succ Ql Qz YP Zco
theorem Zmx{l:List Fct}{key:List UInt8}{k:Nat}{f:Fct}(h:l[k]?=some f)(hk:f.key=key)(hn:∀x∈l.take k,x.key≠key):Vs l key=some k:=by
 unfold Vs;rw[List.findIdx?_eq_some_iff_getElem];obtain⟨hj,rfl⟩:=List.getElem?_eq_some_iff.1 h
 refine⟨hj,by simpa using hk,fun i hi=> ?_⟩;have:=hn l[i] (by rw[List.mem_take_iff_getElem];exact⟨i,by omega,rfl⟩)
 simpa using this
theorem Zmy{l:List Fct}{key:List UInt8}(hn:∀x∈l,x.key≠key):Vs l key=none:=by
 unfold Vs;rw[List.findIdx?_eq_none_iff];intro x hx;simpa using hn x hx
theorem Vz(A:Option Addr)(n c:Nat)(xs:List Fx)(key:List UInt8)(w:World)(hs:Fxs w w.1.size A n xs)(hn:n<=1000000):
 Calls Tryz.prog 19 #[.slice A n c,.string ⟨key.toArray⟩] w fun e w'=>e=.returned (Yc (xs.map (·.1)) key)/\w=w':=by
 have HS:=jq hs;have HFA:=jq (fun(k:Nat) (f:Fct) (h:(xs.map (·.1))[k]?=some f) (hk:f.key=key) (hn:∀x∈(xs.map (·.1)).take k,x.key≠key)=>(show Yc (xs.map (·.1)) key=.tuple #[.int .i64 (k:Nat),.bool true] by unfold Yc;rw[Zmx h hk hn]));have HFN:=jq (fun(hn:∀x∈xs.map (·.1),x.key≠key)=>(show Yc (xs.map (·.1)) key=.tuple #[.int .i64 0,.bool false] by unfold Yc;rw[Zmy hn]));generalize Yc (xs.map (·.1)) key=res at*;clear hs;go_enter Tryz.func19,Tryz.ntmps19
 go_wp2_with fail
 go_loopw [6] (fun i wr=>∃k:Nat,k<=n/\i=.int .i64 k/\wr=w/\Hid (∀x∈(xs.map (·.1)).take k,x.key≠key)) (fun i _=>n-(intOf i).toNat)
 case atStart=>exact⟨0,Nat.zero_le _,rfl,rfl,(show ∀x∈(xs.map (·.1)).take 0,x.key≠key from fun x hx=>by simp at hx)⟩
 case round=>
  obtain⟨k,hk,rfl,rfl,HN⟩:=hrel
  by_cases hlt:k<n
  ·obtain⟨b,off,g,u,rfl,hb,hx,hm,hr⟩:=HS.out.at_ hlt
   have d0:wr.cell? ⟨b,off+k*21,none⟩=some (.string ⟨g.key.toArray⟩):=by have h:=hr 0 _ rfl;rw[Nat.add_zero] at h;exact h
   have HX:=jq (show(xs.map (·.1))[k]?=some g by rw[List.getElem?_map,hx];rfl);clear hx hr hb hm
   by_cases hd:g.key=key
   ·have HRS:=jq (HFA.out k g HX.out hd HN.out);have he:(g.key==key)=true:=by simp[hd]
    clear hd;go_wp2_with fail
    first|go_ret2|go_ret|skip
    exact⟨by rw[HRS.out];rfl,rfl⟩
   ·have HN2:=jq (show ∀x∈(xs.map (·.1)).take (k+1),x.key≠key from fun x hx=>by
     rw[Vv HX.out] at hx
     rcases List.mem_append.1 hx with hx|hx
     ·exact HN.out x hx
     ·rw[List.mem_singleton.1 hx];exact hd)
    have he:(g.key==key)=false:=by simp[hd]
    clear hd;go_wp2_with fail
    exact⟨⟨k+1,by omega,by go_num,trivial,HN2⟩,by simp[intOf];omega⟩
  ·obtain rfl:k=n:=by omega
   have HRS:=jq (HFN.out (by have h:=HN.out;rwa [List.take_of_length_le (by rw[List.length_map,<-HS.out.len];exact Nat.le_refl _)] at h));go_wp2_with fail
   first|go_ret2|go_ret|skip
   exact⟨by rw[HRS.out];rfl,rfl⟩
def ZcI(l:List Fct)(k m:Nat)(key:List UInt8):Bool:=((l.drop (k+1)).take (m-(k+1))).any fun g=>g.key==key
theorem Zgw(l:List Fct)(k:Nat)(key:List UInt8):ZcI l k (k+1) key=false:=by unfold ZcI;rw[Nat.sub_self,List.take_zero];rfl
theorem Ziz{l:List Fct}{k m:Nat}{key:List UInt8}{g:Fct}(h:l[m]?=some g)(hk:k+1<=m):ZcI l k (m+1) key=(ZcI l k m key||g.key==key):=by
 unfold ZcI;have h2:(l.drop (k+1))[m-(k+1)]?=some g:=by rw[List.getElem?_drop,<-h];congr 1;omega
 rw[show m+1-(k+1)=m-(k+1)+1 by omega,Vv h2,List.any_append];simp
theorem Zk0{l:List Fct}{k m:Nat}{key:List UInt8}(h:l.length<=m):ZcI l k m key=(l.drop (k+1)).any fun g=>g.key==key:=by
 unfold ZcI;rw[List.take_of_length_le (by rw[List.length_drop];omega)]
theorem Zk1{l v:List Fct}{k:Nat}{f:Fct}(h:l[k]?=some f):knR v (l.drop k)=if(((l.drop (k+1)).any fun g=>g.key==f.key)||f.cancelled)=true then knR v (l.drop (k+1)) else knR (Jm v f) (l.drop (k+1)):=by
 obtain⟨hk,rfl⟩:=List.getElem?_eq_some_iff.1 h
 rw[List.drop_eq_getElem_cons hk];rfl
theorem ZiA(v:List Fct)(f:Fct):(Jm v f).length=v.length+1:=by
 unfold Jm;rw[List.length_append,List.length_cons,List.length_take,List.length_drop];omega
theorem Zgx(A:Option Addr)(n c:Nat)(xs:List Fx)(w:World)(hp:Env w)(hs:Fxs w w.1.size A n xs)(hn:n<=50000):
 Calls Tryz.prog 32 #[.slice A n c] w (Vh (knR [] (xs.map (·.1))) w):=by
 have HS:=jq hs;generalize hpo:Vh (knR [] (xs.map (·.1))) w=post;have HPO:=jq hpo;have H:=jq ((Kp.start hp).alloc (.cells #[] 43));have hb0:=Xc w;have HO0:=jq (Own.lit (base:=w.1.size) (enc:=QF) (k:=21) w #[] 43 [] rfl Qc (Nat.le_refl _) (by simp));have HK0:=jq (show knR (([]:List Fx).map (·.1)) ((xs.map (·.1)).drop 0)=knR [] (xs.map (·.1)) from rfl);clear hpo hs hp;go_enter Tryz.func32,Tryz.ntmps32
 go_upto_region 2 with (fail)
 generalize w.alloc _=W1 at*;clear hb0;go_wp2_with fail
 go_loopw [3,4,5,6] (fun o i _ _ wr=>∃(k:Nat) (Av:Option Addr) (cv:Nat) (vs:List Fx),k<=n/\o=.slice Av vs.length cv/\i=.int .i64 k/\Hid (Kp w [] wr)/\Hid (Own QF 21 43 wr w.1.size (.slice Av vs.length cv) vs)/\Hid (∀y∈vs,FxM wr wr.1.size y)/\Hid (knR (vs.map (·.1)) ((xs.map (·.1)).drop k)=knR [] (xs.map (·.1)))/\Hid (vs.length<=k)) (fun _ i _ _ _=>n-(intOf i).toNat)
 case atStart=>exact⟨0,some ⟨w.1.size,0,none⟩,0,[],Nat.zero_le _,rfl,rfl,H,HO0,(show ∀y∈([]:List Fx),FxM W1 W1.1.size y from fun y hy=>by cases hy),HK0,Nat.zero_le _⟩
 case round=>
  clear H HO0 HK0;obtain⟨k,Av,cv,vs,hk,rfl,rfl,H,HO,HM,HK,HVL⟩:=hrel
  by_cases hlt:k<n
  ·obtain⟨b,off,f,u,rfl,hb,hx,hm,hr⟩:=(HS.out.below H.out.bl).at_ hlt
   have HX:=jq (show(xs.map (·.1))[k]?=some f by rw[List.getElem?_map,hx];rfl);have HR:=jq (And.intro hr (Nat.lt_of_lt_of_le hb H.out.bl.size));have HFM:=jq (hm.more H.out.bl.size);have HSG:=jq (Zgw (xs.map (·.1)) k f.key);clear hx hr hb hm;generalize wr=w1 at*;go_wp2_with fail
   go_loopw [5,6] (fun la j wr=>∃(m:Nat) (z:Bool),k+1<=m/\m<=n/\j=.int .i64 m/\la=.bool z/\Hid (ZcI (xs.map (·.1)) k m f.key= !z)/\Hid (Below w1.1.size w1 wr)) (fun _ j _=>n-(intOf j).toNat)
   case atStart=>exact⟨k+1,true,Nat.le_refl _,hlt,by go_num,rfl,HSG,Below.refl _ _⟩
   case round=>
    clear HSG;obtain⟨m,z,hm1,hm2,rfl,rfl,HZ,HB⟩:=hrel
    by_cases hlm:m<n
    ·obtain⟨b2,off2,g,u2,hA2,hb2,hx2,hmm,hr2⟩:=(HS.out.below (H.out.here HB.out).bl).at_ hlm
     cases hA2
     have HG:=jq (show(xs.map (·.1))[m]?=some g by rw[List.getElem?_map,hx2];rfl);have HST:=jq (Ziz (key:=f.key) HG.out hm1);have d1:wr.cell? ⟨b,off+m*21,none⟩=some (.string ⟨g.key.toArray⟩):=by have h:=hr2 0 _ rfl;rw[Nat.add_zero] at h;exact h
     have d0:wr.cell? ⟨b,off+k*21,none⟩=some (.string ⟨f.key.toArray⟩):=by have h:=(Qu HR.out.1 HB.out HR.out.2) 0 _ rfl;rw[Nat.add_zero] at h;exact h
     have i1:(m:Int)<(n:Int):=by omega
     have i2:(0:Int)<=(m:Int):=by omega
     have i3:(0:Int)<=(k:Int):=by omega
     have i4:(k:Int)<(n:Int):=by omega
     clear hx2 hr2 hb2 hmm
     cases z with
     |true=>
      by_cases hd:g.key=f.key
      ·have he:(g.key==f.key)=true:=by simp[hd]
       have HZ2:=jq (show ZcI (xs.map (·.1)) k (m+1) f.key= !false by rw[HST.out,he];simp);clear hd;go_upto_region 9 with (fail)
       go_region_held3 (fun X=>X.cell? ⟨b,off+m*21,none⟩=some (.string ⟨g.key.toArray⟩)/\X.cell? ⟨b,off+k*21,none⟩=some (.string ⟨f.key.toArray⟩)) (go_keep) (fail)
       all_goals
        go_wp2_with fail
        go_roundw
        case rel=>exact⟨m+1,false,by omega,by omega,by go_num,rfl,HZ2,HB.out.drew⟩
        case measure=>simp[intOf];omega
      ·have he:(g.key==f.key)=false:=by simp[hd]
       have HZ2:=jq (show ZcI (xs.map (·.1)) k (m+1) f.key= !true by rw[HST.out,he,HZ.out];rfl);clear hd;go_upto_region 9 with (fail)
       go_region_held3 (fun X=>X.cell? ⟨b,off+m*21,none⟩=some (.string ⟨g.key.toArray⟩)/\X.cell? ⟨b,off+k*21,none⟩=some (.string ⟨f.key.toArray⟩)) (go_keep) (fail)
       all_goals
        go_wp2_with fail
        go_roundw
        case rel=>exact⟨m+1,true,by omega,by omega,by go_num,rfl,HZ2,HB.out.drew⟩
        case measure=>simp[intOf];omega
     |false=>
      have HZ2:=jq (show ZcI (xs.map (·.1)) k (m+1) f.key= !false by rw[HST.out,HZ.out];rfl);go_upto_region 9 with (fail)
      go_region
      all_goals
       go_wp2_with fail
       go_roundw
       case rel=>exact⟨m+1,false,by omega,by omega,by go_num,rfl,HZ2,(by first|exact HB|exact HB.out.drew)⟩
       case measure=>simp[intOf];omega
    ·obtain rfl:m=n:=by omega
     have HSA:=jq (Zk0 (l:=xs.map (·.1)) (k:=k) (m:=m) (key:=f.key) (by rw[List.length_map,<-HS.out.len];exact Nat.le_refl _));have HKS:=jq (Zk1 (v:=vs.map (·.1)) HX.out);have hr3:=Qu HR.out.1 HB.out HR.out.2;have d2:wr.cell? ⟨b,off+k*21+2,none⟩=some (.bool f.cancelled):=hr3 2 _ rfl;have hld:=Qi hr3;have H2:=jq (H.out.here HB.out);have HO2:=jq (HO.out.below HB.out);have HM2:=jq (fun y hy=>(HM.out y hy).here HB.out);have HF2:=jq (HFM.out.here HB.out);have HVN:=jq (show vs.length<=k+1 by have:=HVL.out;omega);have i4:¬(m:Int)<(m:Int):=by omega
     have i3:(0:Int)<=(k:Int):=by omega
     have i2:(k:Int)<(m:Int):=by omega
     clear hr3 HR HFM
     cases z with
     |false=>
      have HKN:=jq (show knR (vs.map (·.1)) ((xs.map (·.1)).drop (k+1))=knR [] (xs.map (·.1)) by
       rw[<-HK.out,HKS.out,if_pos (by rw[<-HSA.out,HZ.out];rfl)])
      clear H HO HM HB;generalize wr=w2 at*;go_wp2_with fail
      go_roundw
      case rel=>exact⟨k+1,Av,cv,vs,by omega,rfl,by go_num,H2,HO2,HM2,HKN,HVN⟩
      case measure=>simp[intOf];omega
     |true=>
      cases hcn:f.cancelled with
      |true=>
       have HKN:=jq (show knR (vs.map (·.1)) ((xs.map (·.1)).drop (k+1))=knR [] (xs.map (·.1)) by
        rw[<-HK.out,HKS.out,if_pos (by rw[hcn,Bool.or_true])])
       rw[hcn] at d2;clear hcn H HO HM HB;generalize wr=w2 at*;go_wp2_with fail
       go_roundw
       case rel=>exact⟨k+1,Av,cv,vs,by omega,rfl,by go_num,H2,HO2,HM2,HKN,HVN⟩
       case measure=>simp[intOf];omega
      |false=>
       have HKN:=jq (show knR (Jm (vs.map (·.1)) f) ((xs.map (·.1)).drop (k+1))=knR [] (xs.map (·.1)) by
        rw[<-HK.out,HKS.out,if_neg (by rw[hcn,<-HSA.out,HZ.out];decide)])
       rw[hcn] at d2;clear hcn H HO HM HB;generalize wr=w2 at*;have HWI:=jq (ZdB Av vs.length cv vs f u w2 H2.out.pw HO2.out.room.1 ⟨HO2.out.sl Qc,HM2.out⟩ (by have:=HVL.out;omega) HF2.out);unfold Vh at HWI;have HBS:=jq H2.out.bl.size;go_wp2_with fail
       refine HWI.out.mono ?_;rintro e w3 ⟨A3,c3,zs,rfl,ho3,hz3,hm3,hb3⟩
       have HL3:=jq (show zs.length<=k+1 by
        have h:=congrArg List.length hz3;rw[List.length_map,ZiA,List.length_map] at h;have:=HVL.out;omega)
       have HO3:=jq (ho3.base_ HBS.out);have HM3:=jq hm3;have HK3:=jq (show knR (zs.map (·.1)) ((xs.map (·.1)).drop (k+1))=knR [] (xs.map (·.1)) by rw[hz3];exact HKN.out);have H3:=jq (H2.out.here hb3);clear ho3 hz3 hm3 hb3 HWI H2;go_wp2_with fail
       go_roundw
       case rel=>exact⟨k+1,A3,c3,zs,by omega,rfl,by go_num,H3,HO3,HM3,HK3,HL3⟩
       case measure=>simp[intOf];omega
  ·obtain rfl:k=n:=by omega
   have HKE:=jq (show vs.map (·.1)=knR [] (xs.map (·.1)) by
    have h:=HK.out;rw[List.drop_eq_nil_of_le (by rw[List.length_map,<-HS.out.len];exact Nat.le_refl _)] at h;exact h)
   have i4:¬(k:Int)<(k:Int):=by omega
   go_wp2_with fail
   first|go_ret|skip
   rw[<-HPO.out];exact⟨Av,cv,vs,rfl,HO.out,HKE.out,HM.out,H.out.bl⟩
end
end Go.Proofs.YtmfjmngebldanaaGreatDoor
