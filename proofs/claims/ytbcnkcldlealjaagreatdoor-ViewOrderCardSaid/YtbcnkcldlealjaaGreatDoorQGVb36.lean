/- Vwr. -/
import Derived.Test.YtbcnkcldlealjaaGreatDoorQGVb30
import Derived.Test.YtbcnkcldlealjaaGreatDoorQGVb33
set_option maxRecDepth 100000
set_option maxHeartbeats 8000000
namespace Go.Proofs.YtbcnkcldlealjaaGreatDoor
open Go.Lib renaming hid→jq
section
open Go.RowKit Go.Shelf
attribute [local go_sem] Oper.semAt_some
attribute [local go_sem ↓] Go.wp_at_zero Go.wp_at_succ Qq QA ZaX Zh1
theorem Zga{f:Fct}{v:FaV}{t:Int}:(Qa f v).setIfInBounds 1 (.int .i64 t)=Qa {f with stamp:=t} v:=rfl
theorem Zev{l:List Fct}(h:Vq l=0){n:Nat}(hn:n=l.length):ofV l (n:Int)=(JC l,0):=by
 unfold ofV;rw[if_neg (by simpa using h),if_neg (by omega),Int.toNat_natCast,hn,List.take_length]
theorem ZdK(xs:List Fx)(k:Nat)(key:List UInt8):((xs.drop k).any fun x=>x.1.key==key)=((xs.map (·.1)).drop k).any fun g=>g.key==key:=by
 rw[<-List.map_drop,List.any_map];rfl
theorem Zgb{l:List Fct}{k:Nat}{f:Fct}(h:l[k]?=some f):Va (l.drop k)=if((l.drop (k+1)).any fun g=>g.key==f.key)=true then Va (l.drop (k+1)) else f::Va (l.drop (k+1)):=by
 obtain⟨hk,rfl⟩:=List.getElem?_eq_some_iff.1 h
 rw[List.drop_eq_getElem_cons hk];rfl
theorem ZbM(A:Option Addr)(n c:Nat)(xs:List Fx)(f:Fct)(v:FaV)(q:Nat)(w:World)(hp:Env w)(hcap:n<=c)(hnil:A=none->c=0)(hs:Sl Qt 21 w w.1.size A n xs)(hn:n<=maxLen)(hi:∀x∈xs,FxI w x)(hf:FxI w (f,v))(hq:q<=255):
 Calls Tryz.prog 6 #[.slice A n c,.agg (Qa f v),.int .u8 (q:Nat)] w fun e w'=>e=.returned (.bool true)/\Below w.1.size w w':=by
 have hml:maxLen<=9223372036854775807:=by decide
 have H:=jq ((Kp.start hp).new w.1.size rfl (Qa f v) 44);have HN:=jq hs.1;have HFI:=jq (fun W (hb:Below w.1.size w W)=>Zdm A n c xs W (hp.here hb) (hs.here hb) (fun x hx=>(hi x hx).here hb) hn);have HGR:=jq (fun W (hb:Below w.1.size w W)=>Jl f v W (hp.here hb) (hf.1.here hb) (Nat.le_trans hf.2.1 hml) (Nat.le_trans hf.2.2.1 hml));have HFM:=jq (fun(hg:GrX (f,v))=>hf.m hg);have HFX:=jq (fun(hg:∀x∈xs,GrX x)=>Xo hs hi hg);have HI0:=jq hf.2.2.2;have HC:=jq (And.intro hcap hnil);obtain⟨bf,hbf⟩:∃bf,w.1.size=bf:=⟨_,rfl⟩
 have HBF:=jq hbf;clear hbf;have HAE:=jq (show ∀f' W,Hid (Kp w [(bf,Qa f' v,44)] W)->Calls Tryz.prog 12 #[] W fun e w'=>e=.returned (.bool true)/\Below W.1.size W w' from fun f' W h=>Zag W h.out.pw);have hl0:=Qk (H.out.at_ 0 rfl) (Qe f v);have hwq:wrap64 (q:Int)=(q:Int):=by unfold wrap64;omega
 clear hp hs hi hcap hnil hf hml;go_enter Tryz.func6,Tryz.ntmps6
 go_wp2_with fail
 rw[HBF.out] at H hl0 ⊢;generalize w.alloc (.cells (Qa f v) 44)=W0 at*;refine(HFI.out _ H.out.bl).mono ?_;rintro e w1 ⟨⟨b,rfl,hP⟩,hb1⟩;have HP:=jq hP;have H1:=jq (H.out.here hb1);clear hP hb1 H HFI hl0
 cases b with
 |false=>
  go_wp2_with fail
  refine(HAE.out _ _ H1).mono ?_;rintro e w2 ⟨rfl,hb2⟩;go_wp2_with fail
  first|go_ret|skip
  exact⟨rfl,(H1.out.here hb2).bl⟩
 |true=>
 have HQ:=jq (HP.out rfl);clear HP
 by_cases hn0:n=0
 ·have i0:((n:Int)==0)=true:=by simp[hn0]
  clear hn0;go_wp2_with fail
  refine(HAE.out _ _ H1).mono ?_;rintro e w2 ⟨rfl,hb2⟩;go_wp2_with fail
  first|go_ret|skip
  exact⟨rfl,(H1.out.here hb2).bl⟩
 have i0:((n:Int)==0)=false:=by simp[hn0]
 have HN0:=jq hn0;clear hn0;have hl1:=Qk (H1.out.at_ 0 rfl) (Qe f v);go_wp2_with fail
 refine(HGR.out _ H1.out.bl).mono ?_;rintro e w2 ⟨⟨bz,rfl,hz⟩,hb2⟩;have HZ:=jq hz;have H2:=jq (H1.out.here hb2);clear hz hb2 H1 HGR hl1
 cases bz with
 |true=>
  go_wp2_with fail
  refine(HAE.out _ _ H2).mono ?_;rintro e w3 ⟨rfl,hb3⟩;go_wp2_with fail
  first|go_ret|skip
  exact⟨rfl,(H2.out.here hb3).bl⟩
 |false=>
 obtain⟨p1,p2,p3⟩:=HQ.out
 have HFO:=jq (HFM.out (HZ.out (by trivial)));have HXS:=jq (HFX.out p2);have HLG:=jq p3;have hn12:n<=12:=p1;have HO1:=jq (Zdy A n c xs (n:Int) w2 H2.out.pw HC.out.1 HC.out.2 (HXS.out.here H2.out.bl) (by omega));rw[Zev p3 (show n=(xs.map (·.1)).length by rw[List.length_map];exact HN.out)] at HO1
 dsimp only at HO1
 unfold OfPost at HO1;clear p1 p2 p3 HQ HZ HFM HFX i0;go_wp2_with fail
 refine HO1.out.mono ?_;rintro e w3 ⟨A1,c1,ys,rfl,hf3,hy3,hr3,hb3,hsr⟩;have H3:=jq (H2.out.here hb3);have HF3:=jq hf3;have HY3:=jq hy3
 have HSA:=jq (show ∀a:Addr,A1=some a->a.block≠bf from fun a e h=>by
  have h1:=hr3.2.2.1 a e;have h2:=H2.out.lt 0 rfl;omega)
 have HYM:=jq (show ∀W,Below w.1.size w W->∀y∈ys,FxM W w.1.size y from fun W hb y hy=>by
  obtain⟨x,hx,rfl⟩:=hsr y hy
  exact Zdx ((HXS.out.all x hx).below hb))
 clear hb3 hf3 hy3 hr3 hsr H2 HO1;have HEL:=jq (ZfW ((YL _).1 HLG.out))
 have HEN:=jq (show(Va (xs.map (·.1))).length<=12 by
  have h:=(Jz (xs.map (·.1))).length_le;rw[List.length_map] at h;have:=HN.out
  omega)
 have HBW:=jq (show bf<w3.1.size/\w.1.size<=w3.1.size from⟨H3.out.lt 0 rfl,H3.out.bl.size⟩);go_wp2_with fail
 go_loopw [9,10,11,39] (fun la _ _ i wr=>∃(k:Nat) (A4:Option Addr) (c4:Nat) (zs:List Fx),k<=n/\i=.int .i64 k/\la=.slice A4 zs.length c4/\Hid (Kp w [(bf,Qa f v,44)] wr)/\Hid (Below w3.1.size w3 wr)/\Hid (Own Qt 21 44 wr w3.1.size (.slice A4 zs.length c4) zs)/\Hid (zs.map (·.1)++Va ((xs.map (·.1)).drop k)=Va (xs.map (·.1)))/\Hid (∀z∈zs,z∈xs)) (fun _ _ _ i _=>n-(intOf i).toNat)
 case atStart=>exact⟨0,none,0,[],Nat.zero_le _,rfl,rfl,H3,Below.refl _ _,Own.nil,rfl,(show ∀z∈([]:List Fx),z∈xs from fun z hz=>by cases hz)⟩
 case round=>
  clear H3;obtain⟨k,A4,c4,zs,hk,rfl,rfl,H,HBR,HO,HE,HZX⟩:=hrel
  have hzl:zs.length<=12:=by
   have h:=congrArg List.length HE.out;rw[List.length_append,List.length_map] at h;have:=HEN.out
   omega
  have HZL:=jq hzl;clear hzl
  by_cases hlt:k<n
  ·obtain⟨b,off,g,u,rfl,hb,hx,hm,hr⟩:=(HXS.out.here H.out.bl).at_ hlt
   have hld:=Qi hr;have hst:=fun cs (hc:cs.size=21)=>Qj wr g u (cs:=cs) hc
   have HX:=jq hx;have HB:=jq (H.out.new wr.1.size rfl (Qa g u) 44);have HBA:=jq (HBR.out.alloc HBR.out.size (.cells (Qa g u) 44));have HO1:=jq (HO.out.alloc (.cells (Qa g u) 44));have HES:=jq (Zgb (l:=xs.map (·.1)) (k:=k) (f:=g) (by rw[List.getElem?_map,hx];rfl));clear hx hr hb hm H HBR HO;go_upto_region 8 with (fail)
   generalize wr.alloc (.cells (Qa g u) 44)=W1 at*;clear hld hst;obtain⟨b1,hb1⟩:∃b1,wr.1.size=b1:=⟨_,rfl⟩
   rw[hb1] at HB ⊢;clear hb1;have hsl:=ZcP W1 (some ⟨b,off,none⟩) n c (k+1) hlt;rw[show((k+1:Nat):Int)=(k:Int)+1 by omega] at hsl;have HIN:=jq (Zkc (ZbL (some ⟨b,off,none⟩) c (k+1)) (n-(k+1)) (c-(k+1)) (xs.drop (k+1)) g u b1 W1 (HB.out.at_ 0 rfl) ((HXS.out.here HB.out.bl).cut hlt HC.out.1) (by omega));rw[ZdK] at HIN
   cases hany:((xs.map (·.1)).drop (k+1)).any fun x=>x.key==g.key with
   |true=>
    rw[hany] at HIN HES;have HE2:=jq (show zs.map (·.1)++Va ((xs.map (·.1)).drop (k+1))=Va (xs.map (·.1)) by rw[<-HE.out,HES.out,if_pos rfl]);clear hany;go_wp2_with fail
    refine HIN.out.mono ?_;rintro e w5 ⟨rfl,hb5⟩;have H5:=jq (HB.out.here hb5).tail;have HB5:=jq (HBA.out.trans (hb5.mono HBA.out.size));have HO5:=jq (HO1.out.below hb5);clear hb5 HB HBA HO1 HIN hsl;go_wp2_with fail
    go_roundw
    case rel=>exact⟨k+1,A4,c4,zs,by omega,by go_num,rfl,H5,HB5,HO5,HE2,HZX⟩
    case measure=>simp[intOf];omega
   |false=>
    rw[hany] at HIN HES;have HE2:=jq (show(zs++[(g,u)]).map (·.1)++Va ((xs.map (·.1)).drop (k+1))=Va (xs.map (·.1)) by rw[<-HE.out,HES.out,if_neg (by decide),List.map_append,List.append_assoc];rfl);clear hany;go_wp2_with fail
    refine HIN.out.mono ?_;rintro e w5 ⟨rfl,hb5⟩;have H5:=jq (HB.out.here hb5);have HB5:=jq (HBA.out.trans (hb5.mono HBA.out.size));have HO5:=jq (HO1.out.below hb5);clear hb5 HB HBA HO1 HIN hsl;have hl5:=Qk (H5.out.at_ 0 rfl) (Qe g u);have hbf:=Vj w5 g u;have HSL:=jq (ZcK (f:=g) (v:=u) (heap_alloc_new w5 (.cells (Qa g u) 44)));have HO6:=jq (HO5.out.alloc (.cells (Qa g u) 44));have H6:=jq (H5.out.tail.alloc (.cells (Qa g u) 44));have HB6:=jq (HB5.out.alloc HB5.out.size (.cells (Qa g u) 44));generalize w5.alloc (.cells (Qa g u) 44)=W6 at*
    have HFR:=jq (show ∀r,(Value.slice A4 zs.length c4).ownBlock=some r->w3.1.size<=r from fun r e=>by
     obtain⟨_,_,_,_,_,_,h5⟩:=HO6.out.form
     exact(h5 r e).2.1)
    go_wp2_with (at_builtin;refine QK _ rfl (.tmp 51) (.tmp 53) _ rfl QS Qc Xa (base:=w3.1.size) (.slice A4 zs.length c4) zs rfl HO6.out _ _ 1 1 [(g,u)] rfl HSL.out (by have:=HZL.out;omega) HB6.out.size ?_;intro A7 c7 w7 ho7 hg7 _;have HO7:=jq ho7;have HG7:=jq (Qo hg7 HB6.out.size (Nat.le_refl _) HFR.out);clear ho7 hg7)
    go_roundw
    case rel=>
     refine⟨k+1,A7,c7,zs++[(g,u)],by omega,by go_num,by rw[List.length_append];rfl,H6.out.low HG7.out HBW.out.2 (fun b hb=> ?_),HB6.out.trans HG7.out,(by have h:=HO7.out;rw[List.length_append];exact h),HE2,fun z hz=> ?_⟩
     ·rw[List.mem_singleton.1 hb];exact HBW.out.1
     ·rcases List.mem_append.1 hz with hz|hz
      ·exact HZX.out z hz
      ·rw[List.mem_singleton.1 hz];exact List.mem_of_getElem? HX.out
    case measure=>simp[intOf];omega
  ·obtain rfl:k=n:=by omega
   have HEZ:=jq (show zs.map (·.1)=Va (xs.map (·.1)) by
    have h:=HE.out;rw[List.drop_eq_nil_of_le (by rw[List.length_map,<-HN.out];exact Nat.le_refl _)] at h;exact(List.append_nil _).symm.trans h)
   have HF4:=jq (HF3.out.here HBR.out);have HZF:=jq (show Fxs wr wr.1.size A4 zs.length zs from⟨HO.out.sl Qc,fun z hz=>(HXS.out.here H.out.bl).all z (HZX.out z hz)⟩);have HO2:=jq (Jw A4 zs.length c4 zs (zs.length:Int) wr H.out.pw HO.out.room.1 HO.out.room.2.1 HZF.out (by have:=HZL.out;omega));rw[HEZ.out,Zev HEL.out.1 (by rw[<-HEZ.out,List.length_map]),HEL.out.2] at HO2
   dsimp only at HO2
   unfold FsPost at HO2;clear HBR HO HE HZX HZF HEZ HEN hlt hk HF3;go_wp2_with fail
   refine HO2.out.mono ?_;rintro e w8 ⟨A8,c8,us,rfl,hf8,hu8,_,hb8⟩;have H8:=jq (H.out.here hb8)
   have hul:us.length<=12:=by
    have h:=Js (xs.map (·.1));rw[<-hu8,List.length_map,List.length_map] at h;have:=HN.out;omega
   have hyl:ys.length<=12:=by
    have h:=Js (xs.map (·.1));rw[<-HY3.out,List.length_map,List.length_map] at h;have:=HN.out;omega
   have HYL:=jq hyl;have HF8:=jq (HF4.out.here hb8);have HSM:=jq (QL A1 A8 ys.length us.length c1 c8 ys us w8 H8.out.pw HF8.out hf8 (by omega) (by omega));rw[decide_eq_true (show ys.map (·.1)=us.map (·.1) by rw[HY3.out,hu8])] at HSM;clear hb8 hf8 hu8 hul hyl H HO2 HF4;go_wp2_with fail
   refine HSM.out.mono ?_;rintro e w9 ⟨rfl,hb9⟩;have H9:=jq (H8.out.here hb9);have HF9:=jq (HF8.out.here hb9);clear hb9 HSM H8 HF8;obtain⟨m,hm⟩:∃m,m=q%k:=⟨_,rfl⟩
   have hml:m<k:=by rw[hm];exact Nat.mod_lt _ (by have:=HN0.out;omega)
   have htm:Int.tmod (q:Int) (k:Int)=(m:Int):=by rw[hm];exact(Int.ofNat_tmod q k).symm
   clear hm;obtain⟨b,off,g,u,rfl,hb,hx,hmx,hr⟩:=(HXS.out.here H9.out.bl).at_ hml
   have HX:=jq hx;have d1:w9.cell? ⟨b,off+m*21+1,none⟩=some (.int .i64 g.stamp):=hr 1 _ rfl;have f1:=H9.out.f 0 1 rfl;have y1:=H9.out.c 0 1 rfl (show(Qa f v)[1]?=some (.int .i64 f.stamp) from rfl);have HS9:=jq (H9.out.set 0 1 rfl (.int .i64 g.stamp));simp only[List.set_cons_zero,Zga] at HS9;have hb9:Below w9.1.size w9 (w9.setCell ⟨bf,1,none⟩ (.int .i64 g.stamp))\/True:=.inr trivial;clear hb9;have hl10:=Qk (HS9.out.at_ 0 rfl) (Qe _ v)
   have HF10:=jq (show ∀W,Below w.1.size w W->FxM W W.1.size ({f with stamp:=g.stamp},v) from fun W hb=>by
    have h1:=HFO.out.here hb;have h2:=(HXS.out.all _ (List.mem_of_getElem? HX.out)).sz.stamp;exact⟨⟨h1.m.pk,h1.m.op,h1.m.pc⟩,h1.pn,h1.on,{h1.sz with stamp:=h2}⟩)
   have HPP:=jq (fun(h1:Qf {f with stamp:=g.stamp}=0) (h2:(((xs.map (·.1)).drop m).any fun x=>x.key==({f with stamp:=g.stamp}:Fct).key)=true)=>
    ZfX ((YL _).1 HLG.out) (by rw[List.length_map,<-HN.out];omega) (show(xs.map (·.1))[m]?=some g by rw[List.getElem?_map,HX.out];rfl) (show({f with stamp:=g.stamp}:Fct).stamp=g.stamp from rfl) h1 h2)
   have HY10:=jq (show Fxs (w9.setCell ⟨bf,1,none⟩ (.int .i64 g.stamp)) (w9.setCell ⟨bf,1,none⟩ (.int .i64 g.stamp)).heap.size A1 ys.length ys from
    ⟨(HF9.out.sl.farC HSA.out 1 (.int .i64 g.stamp)).more (by simp),fun y hy=>(HYM.out _ HS9.out.bl y hy).more HS9.out.bl.size⟩)
   generalize hfe:({f with stamp:=g.stamp}:Fct)=f2 at*;clear hfe hx hmx hr hb;go_wp2_with fail
   clear d1 f1 y1;generalize w9.setCell ⟨bf,1,none⟩ (.int .i64 g.stamp)=w10 at*;refine(Jq HS9.out.pw (HF10.out _ HS9.out.bl)).mono ?_;rintro e w11 ⟨rfl,hb11⟩;have H11:=jq (HS9.out.here hb11);have HY11:=jq (HY10.out.here hb11);clear hb11 HY10 HS9 HF9 hl10 HSA HYM
   dsimp only
   by_cases hz:Qf f2=0
   rotate_left
   ·generalize Qf f2=z at*;have hz2:(z !=0)=true:=by simpa using hz
    clear hz;go_wp2_with fail
    refine(HAE.out _ _ H11).mono ?_;rintro e w12 ⟨rfl,hb12⟩;go_wp2_with fail
    first|go_ret|skip
    exact⟨rfl,(H11.out.here hb12).bl⟩
   have HCZ:=jq hz;rw[hz];clear hz;have hsl:=ZcP w11 (some ⟨b,off,none⟩) k c m (by omega);have HIN:=jq (Zkd (ZbL (some ⟨b,off,none⟩) c m) (k-m) (c-m) (xs.drop m) f2 v bf w11 (H11.out.at_ 0 rfl) ((HXS.out.here H11.out.bl).cut (by omega) HC.out.1) (by omega));rw[ZdK] at HIN
   cases hany:((xs.map (·.1)).drop m).any fun x=>x.key==f2.key with
   |false=>
    rw[hany] at HIN;clear hany HPP;go_wp2_with fail
    refine HIN.out.mono ?_;rintro e w12 ⟨rfl,hb12⟩;have H12:=jq (H11.out.here hb12);clear hsl hb12;go_wp2_with fail
    refine(HAE.out _ _ H12).mono ?_;rintro e w13 ⟨rfl,hb13⟩;go_wp2_with fail
    first|go_ret|skip
    exact⟨rfl,(H12.out.here hb13).bl⟩
   |true=>
    have HRP:=jq (HPP.out HCZ.out hany);rw[hany] at HIN;clear hany HPP;go_wp2_with fail
    refine HIN.out.mono ?_;rintro e w12 ⟨rfl,hb12⟩;have H12:=jq (H11.out.here hb12);have HY12:=jq (HY11.out.here hb12);clear hb12 hsl HIN H11 HY11;go_upto_region 18 with (fail)
    have hS:=jq (fun X (h:Bz w12 X)=>(show(Ji (.pointer (some ⟨bf,0,none⟩))).run Tryz.prog X=.ok (.agg (Qa f2 v)) X from Qk ((H12.out.here h).at_ 0 rfl) (Qe f2 v)));have hbl:=fun W=>Vj W f2 v
    have HCL:=jq (fun X (h:Bz w12 X)=>Vz (some ⟨b,off,none⟩) k c xs X (fun e=>by cases e) HC.out.1 (HXS.out.here (H12.out.here h).bl).sl (by omega))
    have HOF:=jq (show ∀A5 c5 W,Own Qt 21 44 W w12.1.size (.slice A5 (xs.length+1) c5) (xs.take m++(f2,v)::xs.drop m)->Bz w12 W->
     Calls Tryz.prog 13 #[.slice A5 (xs.length+1) c5,.int .i64 ((k:Int)+1)] W (FsPost (JC (xs.map (·.1))) 0 W) from fun A5 c5 W ho hz=>by
     have hL:(xs.take m++(f2,v)::xs.drop m).map (·.1)=(xs.map (·.1)).take m++f2::(xs.map (·.1)).drop m:=by rw[List.map_append,List.map_take,List.map_cons,List.map_drop]
     have hn2:xs.length+1=(xs.take m++(f2,v)::xs.drop m).length:=ho.facts.1
     have hf:Fxs W W.1.size A5 (xs.length+1) (xs.take m++(f2,v)::xs.drop m):=⟨ho.sl Qc,fun x hx=>by
      have hbw:=(H12.out.here hz).bl
      rcases List.mem_append.1 hx with hx|hx
      ·exact(HXS.out.here hbw).all x (List.mem_of_mem_take hx)
      ·rcases List.mem_cons.1 hx with rfl|hx
       ·exact HF10.out _ hbw
       ·exact(HXS.out.here hbw).all x (List.mem_of_mem_drop hx)⟩
     have hkx:k=xs.length:=HN.out;have h:=Jw A5 (xs.length+1) c5 (xs.take m++(f2,v)::xs.drop m) ((xs.length+1:Nat):Int) W (H12.out.here hz).pw (by rw[hn2];exact ho.room.1) ho.room.2.1 hf (by omega);rw[hL,Zev HRP.out.1 (by rw[<-hL,List.length_map];exact hn2),HRP.out.2] at h;rw[show(k:Int)+1=((xs.length+1:Nat):Int) by omega];exact h)
    unfold FsPost at HOF;have hmn:m<=xs.length:=by have:=HN.out;omega
    have hxn:xs.length<=1000000:=by have:=HN.out;omega
    have hwk:IntKind.i64.wrap ((k:Int)+1)=(k:Int)+1:=by rw[IntKind.wrap_i64];omega
    have hz0:Bz w12 w12:=Bz.refl w12
    go_region_held3 (fun X=>(Ji (.pointer (some ⟨bf,0,none⟩))).run Tryz.prog X=.ok (.agg (Qa f2 v)) X)
     (first|(exact hS.out _ (by repeat' (first|assumption|exact Bz.refl _|refine Bz.drew ?_|refine Bz.alloc ?_ _|refine Bz.set ?_ (by first|assumption|exact Nat.le_refl _|exact Bz.size (by assumption)) _ _)))|go_keep)
     (first
       |(go_at_call 30;refine(HCL.out _ (by repeat' (first|assumption|exact Bz.refl _|refine Bz.drew ?_|refine Bz.alloc ?_ _|refine Bz.set ?_ (by first|assumption|exact Nat.le_refl _|exact Bz.size (by assumption)) _ _))).mono ?_;rintro e v1 ⟨A3,c3,rfl,ho3,hb3⟩;have hz1:Bz w12 v1:=Bz.call (by repeat' (first|assumption|exact Bz.refl _|refine Bz.drew ?_|refine Bz.alloc ?_ _|refine Bz.set ?_ (by first|assumption|exact Nat.le_refl _|exact Bz.size (by assumption)) _ _)) hb3;have HO3:=jq (ho3.base_ (show w12.1.size<=_ from Bz.size (by repeat' (first|assumption|exact Bz.refl _|refine Bz.drew ?_|refine Bz.alloc ?_ _|refine Bz.set ?_ (by first|assumption|exact Nat.le_refl _|exact Bz.size (by assumption)) _ _)))))
       |(go_at_call 13;with_reducible refine(HOF.out A5 c5 v2 HO5.out hz2).mono ?_;rintro e v3 ⟨A6,c6,us6,rfl,hf6,hu6,_,hb6⟩;have hz3:Bz w12 v3:=Bz.call (by repeat' (first|assumption|exact Bz.refl _|refine Bz.drew ?_|refine Bz.alloc ?_ _|refine Bz.set ?_ (by first|assumption|exact Nat.le_refl _|exact Bz.size (by assumption)) _ _)) hb6)
       |(go_at_call 29
         have hz1s:=Bz.size hz1
         first
          |(have hv1:BlkB (v1.alloc (.cells (Qa f2 v) 44)) v1.1.size (Qa f2 v) 44:=heap_alloc_new v1 _
            have ho1:=HO3.out.alloc (.cells (Qa f2 v) 44)
            have hne1:(Value.slice A3 xs.length c3).ownBlock≠some v1.1.size:=fun e=>by
             obtain⟨_,_,_,_,_,_,h5⟩:=HO3.out.form
             have:=(h5 _ e).2.2
             omega
            have hbs1:w12.1.size<=(v1.alloc (.cells (Qa f2 v) 44)).heap.size:=by simp;omega
            with_reducible refine(Zah A3 xs.length c3 m v1.1.size w12.1.size xs f2 v (v1.alloc (.cells (Qa f2 v) 44)) ho1 hv1 hne1 hmn hxn hbs1).mono ?_
            rintro e v2 ⟨A5,c5,rfl,ho5,hb5⟩;have hz2:Bz w12 v2:=Below.trans (Bz.alloc hz1 _) hb5;have HO5:=jq ho5)
          |(have hq1:BlkB v1 w12.1.size (Qa f2 v) 44:=BlkB.here (w:=(w12.alloc (.cells (Qa f2 v) 44)).drew) (heap_alloc_new w12 _) hb3
            have hnb:(Value.slice A3 xs.length c3).ownBlock≠some w12.1.size:=fun e=>by
             obtain⟨_,_,_,_,_,_,h5⟩:=ho3.form
             have h6:(w12.alloc (.cells (Qa f2 v) 44)).heap.size<=w12.1.size:=(h5 _ e).2.1;have h7:(w12.alloc (.cells (Qa f2 v) 44)).heap.size=w12.1.size+1:=by simp
             omega
            with_reducible refine(Zah A3 xs.length c3 m w12.1.size w12.1.size xs f2 v v1 HO3.out hq1 hnb hmn hxn hz1s).mono ?_
            rintro e v2 ⟨A5,c5,rfl,ho5,hb5⟩;have hz2:Bz w12 v2:=Below.trans hz1 hb5;have HO5:=jq ho5)))
    all_goals
     have hul6:us6.length<=12:=by
      have h:=Js (xs.map (·.1));rw[<-hu6,List.length_map,List.length_map] at h;have:=HN.out;omega
     have H13:=jq (H12.out.here hz3);have HSM:=jq (QL A6 A1 us6.length ys.length c6 c1 us6 ys v3 H13.out.pw hf6 (HY12.out.here hz3) (by omega) (by have:=HYL.out;omega));rw[decide_eq_true (show us6.map (·.1)=ys.map (·.1) by rw[HY3.out,hu6])] at HSM;clear hf6 hu6 hS hbl HCL HOF HY12 hz1 hz2 hz0;go_wp2_with fail
     refine HSM.out.mono ?_;rintro e w14 ⟨rfl,hb14⟩;have H14:=jq (H13.out.here hb14);go_wp2_with fail
     refine(HAE.out _ _ H14).mono ?_;rintro e w15 ⟨rfl,hb15⟩;go_wp2_with fail
     first|go_ret|skip
     exact⟨rfl,(H14.out.here hb15).bl⟩
end
end Go.Proofs.YtbcnkcldlealjaaGreatDoor
