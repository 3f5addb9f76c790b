/- Vwf. -/
import Derived.Test.YtbcnkcldlealjaaGreatDoorQGVb30
import Derived.Test.YtbcnkcldlealjaaGreatDoorQGVb33
set_option maxRecDepth 100000
set_option maxHeartbeats 8000000
namespace Go.Proofs.YtbcnkcldlealjaaGreatDoor
open Go.Lib renaming hid→jq
section
open Go.RowKit Go.Shelf
attribute [local go_sem] Oper.semAt_some
attribute [local go_sem ↓] Qq QA ZhQ
theorem Zew(k:List UInt8)(w:World):(buF #[(0,.string ⟨k.toArray⟩),(2,.bool true)]).run Tryz.prog w=.ok (.agg (Qa (YZ k) Qg)) w:=ZhS k true w
theorem Zkf{w:World}{B:Nat}{k:List UInt8}(h:k.length<=1000):FxM w B (YZ k,Qg):=by
 have h0:(0:Nat)<=1000:=by omega
 exact ZdG rfl rfl ⟨h,h0,h0,h0,h0,h0,h0,h0,⟨h0,h0⟩,⟨h0,h0⟩,⟨h0,h0⟩,(fun _ h=>by cases h),(fun _ h=>by cases h),(show Jh 0 from⟨by decide,by decide⟩),(show Jh 0 from⟨by decide,by decide⟩),(show Jh 0 from⟨by decide,by decide⟩),(show Jh 0 from⟨by decide,by decide⟩)⟩
theorem Zjq{l:List Fct}(h:Vq l=0){k:Nat}(hk:k<=l.length):ofV l (k:Int)=(JC (l.take k),0):=by
 unfold ofV;rw[if_neg (by simpa using h),if_neg (by omega),Int.toNat_natCast]
theorem Zai(A:Option Addr)(n c:Nat)(xs:List Fx)(p q:Nat)(w:World)(hp:Env w)(hcap:n<=c)(hnil:A=none->c=0)(hs:Sl Qt 21 w w.1.size A n xs)(hn:n<=maxLen)(hi:∀x∈xs,FxI w x)(hp8:p<=255)(hq8:q<=255):
 Calls Tryz.prog 9 #[.slice A n c,.int .u8 (p:Nat),.int .u8 (q:Nat)] w fun e w'=>e=.returned (.bool true)/\Below w.1.size w w':=by
 have H:=jq (Kp.start hp);have HN:=jq hs.1;have HFI:=jq (Zdm A n c xs w hp hs hi hn);have HFX:=jq (fun(hg:∀x∈xs,GrX x)=>Xo hs hi hg);have HOF:=jq (fun(hg:∀x∈xs,GrX x) (h12:n<=12) (k:Nat) W (hb:Below w.1.size w W)=>Jw A n c xs (k:Int) W (hp.here hb) hcap hnil ((Xo hs hi hg).here hb) (by omega));have HAE:=jq (show ∀W,Hid (Kp w [] W)->Calls Tryz.prog 12 #[] W fun e w'=>e=.returned (.bool true)/\Below W.1.size W w' from fun W h=>Zag W h.out.pw);clear hp hs hi hcap hnil;go_enter Tryz.func9,Tryz.ntmps9
 go_wp2_with fail
 refine HFI.out.mono ?_;rintro e w1 ⟨⟨b,rfl,hP⟩,hb1⟩;have HP:=jq hP;have H1:=jq (H.out.here hb1);clear hP hb1 H HFI
 cases b with
 |false=>
  go_wp2_with fail
  refine(HAE.out _ H1).mono ?_;rintro e w2 ⟨rfl,hb2⟩;go_wp2_with fail
  first|go_ret|skip
  exact⟨rfl,(H1.out.here hb2).bl⟩
 |true=>
 obtain⟨p1,p2,p3⟩:=HP.out rfl
 have HOX:=jq (show ∀k,k<=n->∀W,Below w.1.size w W->Calls Tryz.prog 13 #[.slice A n c,.int .i64 (k:Int)] W (FsPost (JC ((xs.map (·.1)).take k)) 0 W) from fun k hk W hb=>by
  have h:=HOF.out p2 p1 k W hb;rw[Zjq p3 (by rw[List.length_map,<-HN.out];exact hk)] at h;exact h)
 have HVL:=jq (show ∀k,(JC ((xs.map (·.1)).take k)).length<=12 from fun k=>by
  have h:=Js ((xs.map (·.1)).take k);rw[List.length_take,List.length_map] at h;have:=HN.out
  omega)
 have HVK:=jq (show ∀k,VwOk (JC ((xs.map (·.1)).take k)) from fun k=>Zj3 (((YL _).1 p3).take k));clear p2 p3 HP HOF HFX;obtain⟨pm,hpm⟩:∃pm,pm=p% (n+1):=⟨_,rfl⟩
 obtain⟨qm,hqm⟩:∃qm,qm=q% (n+1):=⟨_,rfl⟩
 have hpl:pm<=n:=by have:=Nat.mod_lt p (show 0<n+1 by omega);omega
 have hql:qm<=n:=by have:=Nat.mod_lt q (show 0<n+1 by omega);omega
 have ht1:Int.tmod (p:Int) ((n:Int)+1)=(pm:Int):=by rw[hpm];exact(Int.ofNat_tmod p (n+1)).symm
 have ht2:Int.tmod (q:Int) ((n:Int)+1)=(qm:Int):=by rw[hqm];exact(Int.ofNat_tmod q (n+1)).symm
 have hwp:wrap64 (p:Int)=(p:Int):=by unfold wrap64;omega
 have hwq:wrap64 (q:Int)=(q:Int):=by unfold wrap64;omega
 clear hpm hqm;have HA0:=jq (HOX.out pm hpl _ H1.out.bl);unfold FsPost at HA0;go_wp2_with fail
 refine HA0.out.mono ?_;rintro e w2 ⟨A1,c1,ys,rfl,hf2,hy2,hr2,hb2⟩;have H2:=jq (H1.out.here hb2);have HB0:=jq (HOX.out qm hql _ H2.out.bl);unfold FsPost at HB0;have HF2:=jq hf2;have HY2:=jq hy2;have HR2:=jq (And.intro hr2.1 hr2.2.1);clear hb2 hf2 hy2 hr2 H1 HA0;go_wp2_with fail
 refine HB0.out.mono ?_;rintro e w3 ⟨A2,c2,zs,rfl,hf3,hz3,_,hb3⟩;have H3:=jq (H2.out.here hb3);have HF3:=jq (HF2.out.here hb3);have HG3:=jq hf3;have HZ3:=jq hz3;have HVA:=jq (HVK.out pm);have HVB:=jq (HVK.out qm);have hal:=HVL.out pm;have hbl:=HVL.out qm;clear hb3 hf3 hz3 H2 HB0 HF2 HVK HVL HOX hwp hwq ht1 ht2 hpl hql;generalize JC ((xs.map (·.1)).take pm)=va at*;generalize JC ((xs.map (·.1)).take qm)=vb at*;have hyl:ys.length<=12:=by have h:=congrArg List.length HY2.out;rw[List.length_map] at h;omega
 have hzl:zs.length<=12:=by have h:=congrArg List.length HZ3.out;rw[List.length_map] at h;omega
 have HCH:=jq (Zcl A1 A2 ys.length c1 zs.length c2 ys zs w3 H3.out.pw HF3.out HG3.out (by omega) (by omega));rw[HY2.out,HZ3.out,Zjn HVA.out HVB.out] at HCH;unfold KsPost at HCH
 dsimp only at HCH
 have hkl:(kys va vb).length<=24:=by have:=Zjm (a:=va) (b:=vb);omega
 go_wp2_with fail
 refine HCH.out.mono ?_;rintro e w4 ⟨A4,c4,rfl,ho4,hb4⟩;have H4:=jq (H3.out.here hb4);have HF4:=jq (HF3.out.here hb4);have HG4:=jq (HG3.out.here hb4);have HK4:=jq ho4;clear hb4 ho4 H3 HF3 HG3 HCH;obtain⟨d,hd1,hd2⟩:=Zgc HVA.out HVB.out
 have HFI:=jq (Zav A1 A2 ys.length c1 zs.length c2 ys zs w4 H4.out.pw HF4.out HG4.out (by omega) (by omega));rw[HY2.out,HZ3.out,hd1] at HFI;unfold Zaf at HFI
 dsimp only at HFI
 have HD2:=jq hd2;clear hd1 hd2;have HSR:=jq (Zjo (a:=va) (b:=vb));have HME:=jq (fun j k h=>Zjp (j:=j) (k:=k) HVA.out HVB.out h);have HSE:=jq (Zh5 HVA.out HVB.out);have HTE:=jq (fun v hv h=>Zj6 HVA.out HVB.out (v:=v) hv h);rw[show YT ((Qs va vb++Qs vb va).map (·.key))=kys va vb from rfl] at HTE;generalize kys va vb=ks at*;go_wp2_with fail
 refine HFI.out.mono ?_;rintro e w5 ⟨rfl,hb5⟩;have H5:=jq (H4.out.here hb5);have HF5:=jq (HF4.out.here hb5);have HG5:=jq (HG4.out.here hb5);have HK5:=jq (HK4.out.below hb5);clear hb5 H4 HF4 HG4 HK4 HFI;have HSM:=jq (QL A1 A2 ys.length zs.length c1 c2 ys zs w5 H5.out.pw HF5.out HG5.out (by omega) (by omega));rw[HY2.out,HZ3.out,HSE.out] at HSM
 have hz0:decide (ks.length=0)= !decide (0<ks.length):=by
  rcases Nat.eq_zero_or_pos ks.length with h|h
  ·rw[h];rfl
  ·rw[decide_eq_true h,decide_eq_false (by omega)];rfl
 have hz1:((ks.length:Int)==0)= !decide (0<ks.length):=by
  rcases Nat.eq_zero_or_pos ks.length with h|h
  ·rw[h];rfl
  ·rw[decide_eq_true h,Bool.not_true,beq_eq_false_iff_ne];omega
 rw[hz0] at HSM;clear hz0;go_wp2_with fail
 refine HSM.out.mono ?_;rintro e w6 ⟨rfl,hb6⟩;have H6:=jq (H5.out.here hb6);have HF6:=jq (HF5.out.here hb6);have HG6:=jq (HG5.out.here hb6);have HK6:=jq (HK5.out.below hb6);clear hb6 H5 HF5 HG5 HK5 HSM;have HIS:=jq (ZcQ A4 c4 ks w6 (HK6.out.sl JU) HSR.out (by omega));go_wp2_with fail
 refine HIS.out.mono ?_;rintro e w7 ⟨rfl,hb7⟩;have H7:=jq (H6.out.here hb7);have HF7:=jq (HF6.out.here hb7);have HG7:=jq (HG6.out.here hb7);have HK7:=jq (HK6.out.below hb7);clear hb7 H6 HF6 HG6 HK6 HIS hz1;have HL0:=jq (show ∀x,Qd va x=if x∈ks.take 0 then Qd vb x else Qd va x from fun x=>by rw[List.take_zero,if_neg (by simp)]);have HSTEP:=jq (fun(j:Nat) (key:List UInt8) (v:List Fct) (h1:ks[j]?=some key) (h2:VwOk v) (h3:∀x,Qd v x=if x∈ks.take j then Qd vb x else Qd va x) (h4:v.length+1<=1000)=>Zjf HVA.out HVB.out h2 (HME.out j key h1) h3 h4);have HVBK:=jq HVB.out;have HYF:=jq HF7.out;have HYV:=jq (show VwOk (ys.map (·.1)) by rw[HY2.out];exact HVA.out);have HYL:=jq (show ∀x,Qd (ys.map (·.1)) x=if x∈ks.take 0 then Qd vb x else Qd va x by rw[HY2.out];exact HL0.out)
 have HKL:=jq (show ∀(j:Nat) (key:List UInt8),ks[j]?=some key->key.length<=1000 from fun(j:Nat) (key:List UInt8) h=>by
  have hne:=HME.out j key h
  cases h1:Qd va key with
  |some f=>
   have hm:=QR h1;rw[<-HY2.out] at hm;obtain⟨y,hy,e⟩:=List.mem_map.1 hm
   have h2:=(HF7.out.all y hy).sz.key;rw[e,XL h1] at h2;exact h2
  |none=>
   cases h3:Qd vb key with
   |some f=>
    have hm:=QR h3;rw[<-HZ3.out] at hm;obtain⟨y,hy,e⟩:=List.mem_map.1 hm
    have h2:=(HG7.out.all y hy).sz.key;rw[e,XL h3] at h2;exact h2
   |none=>exact absurd (h1.trans h3.symm) hne)
 clear HL0 HME;go_wp2_with fail
 go_loopw [8,16,18,19,20,21,103] (fun e x _ _ _ _ i wr=>∃(j:Nat) (Ax:Option Addr) (cx:Nat) (us:List Fx),j<=ks.length/\i=.int .i64 j/\e=.int .i64 0/\x=.slice Ax us.length cx/\Hid (Kp w [] wr)/\Hid (Below w7.1.size w7 wr)/\Hid (Fxs wr wr.1.size Ax us.length us)/\Hid (us.length<=cx/\(Ax=none->cx=0))/\Hid (VwOk (us.map (·.1)))/\Hid (∀x,Qd (us.map (·.1)) x=if x∈ks.take j then Qd vb x else Qd va x)/\Hid (us.length<=12+j)) (fun _ _ _ _ _ _ i _=>ks.length-(intOf i).toNat)
 case atStart=>exact⟨0,A1,c1,ys,Nat.zero_le _,rfl,rfl,rfl,H7,Below.refl _ _,HF7,HR2,HYV,HYL,hyl⟩
 case round=>
  clear H7 HF7 HR2 HYV HYL;obtain⟨j,Ax,cx,us,hj,rfl,rfl,rfl,H,HBR,HU,HUR,HUV,HUL,HUN⟩:=hrel
  by_cases hlt:j<ks.length
  ·obtain⟨b,off,key,hA4,hb,hkey,d0⟩:=((HK7.out.below HBR.out).sl JU).st hlt
   have hun:=HUN.out;obtain⟨s1,s2,s3,s4⟩:=HSTEP.out j key _ hkey HUV.out HUL.out (by rw[List.length_map];omega)
   have HKT:=jq (Zh8 hkey);have HS2:=jq s2;have HS3:=jq (show ∀x,Qd (QI (us.map (·.1)) (toB vb key)) x=if x∈ks.take (j+1) then Qd vb x else Qd va x by rw[HKT.out];exact s3);have HS4:=jq (show(QI (us.map (·.1)) (toB vb key)).length<=12+(j+1) by rw[List.length_map] at s4;omega);have HS1:=jq s1;have HFD:=jq (Zbz A2 zs.length c2 zs key wr (HG7.out.here HBR.out) (by omega));rw[HZ3.out] at HFD;have hkl:=HKL.out j key hkey;have HKY:=jq hkl;subst hA4;clear hkl s1 s2 s3 s4 hb hkey HKT HUV HUL HUN;go_upto_region 13 with (fail)
   go_wp2_with fail
   refine HFD.out.mono ?_;rintro e w8 ⟨rfl,hb8⟩;have H8:=jq (H.out.here hb8);have HB8:=jq (HBR.out.trans (hb8.mono HBR.out.size));have HU8:=jq (HU.out.here hb8);have HBA:=jq ((Below.refl w8.1.size w8).alloc (Nat.le_refl _) (.cells (Qa (YZ key) Qg) 44));have HB9:=jq (H8.out.new w8.1.size rfl (Qa (YZ key) Qg) 44);have HBY:=jq (HB8.out.alloc HB8.out.size (.cells (Qa (YZ key) Qg) 44));have hbu:=Zew key;have hst:=fun cs (hc:cs.size=21)=>Qj w8 (YZ key) Qg (cs:=cs) hc
   clear hb8
   cases hf:YI vb key with
   |none=>
    have HBN:=HB9;have HBZ:=HBY;have hafe:Yj (us.map (·.1)) (YZ key)=(QI (us.map (·.1)) (toB vb key),0):=by rw[<-Zh7 hf];exact HS1.out
    have HAF:=jq (Yz Ax us.length cx us (YZ key) Qg (w8.alloc (.cells (Qa (YZ key) Qg) 44)) HB9.out.pw HUR.out.2 HUR.out.1 (HU8.out.here HBA.out) (by omega) (Zkf HKY.out));rw[hafe] at HAF
    dsimp only at HAF
    unfold FsPost at HAF;have hl:=Qk (HB9.out.at_ 0 rfl) (Qe (YZ key) Qg);rw[show YM vb key=.tuple #[.int .i64 0,.bool false] by unfold YM;rw[hf]];clear hf hafe;go_wp2_with fail
    generalize w8.alloc (.cells (Qa (YZ key) Qg) 44)=W9 at*;refine HAF.out.mono ?_;rintro e w11 ⟨A11,c11,us2,rfl,hf11,hm11,hr11,hb11⟩;have HF11:=jq hf11;have HM11:=jq hm11;have HR11:=jq (And.intro hr11.1 hr11.2.1);have H11:=jq (HBN.out.bare.here hb11);have HB11:=jq (HBZ.out.trans (hb11.mono HBZ.out.size));have HL11:=jq (show us2.length<=12+(j+1) by have h:=congrArg List.length hm11;rw[List.length_map] at h;have:=HS4.out;omega);clear hf11 hm11 hr11 hb11 HAF HBN HBZ hl;go_wp2_with fail
    go_roundw
    case rel=>exact⟨j+1,A11,c11,us2,by omega,by go_num,rfl,rfl,H11,HB11,HF11,HR11,(show VwOk (us2.map (·.1)) by rw[HM11.out];exact HS2.out),(show ∀x,Qd (us2.map (·.1)) x=if x∈ks.take (j+1) then Qd vb x else Qd va x by rw[HM11.out];exact HS3.out),HL11⟩
    case measure=>simp[intOf];omega
   |some m=>
    obtain⟨f,hfi,hT⟩:=Zh6 HVBK.out hf
    have hml:m<zs.length:=by
     have h:=(List.getElem?_eq_some_iff.1 hfi).1;rw[<-HZ3.out,List.length_map] at h;exact h
    obtain⟨b2,off2,f2,u2,hA2,hb2,hx2,hm2,hr2⟩:=(HG7.out.here HBY.out).at_ hml
    obtain rfl:f2=f:=by
     rw[<-HZ3.out,List.getElem?_map,hx2] at hfi;exact Option.some.inj hfi
    have hld:=Qi hr2;have hss:=ZeD (f:=f2) (v:=u2) (HB9.out.at_ 0 rfl) (Qe (YZ key) Qg);have HBN:=jq (HB9.out.row 0 rfl (Qa f2 u2));simp only[List.set_cons_zero] at HBN;have hbr:=JE (w8.alloc (.cells (Qa (YZ key) Qg) 44)) (n:=w8.1.size) (g:=w8.1.size) (Nat.le_refl _) (Qa f2 u2);have HBZ:=jq (HBY.out.trans (hbr.mono HB8.out.size));have hafe:Yj (us.map (·.1)) f2=(QI (us.map (·.1)) (toB vb key),0):=by rw[<-hT];exact HS1.out
    have HAF:=jq (Yz Ax us.length cx us f2 u2 ((w8.alloc (.cells (Qa (YZ key) Qg) 44)).setRow w8.1.size (Qa f2 u2)) HBN.out.pw HUR.out.2 HUR.out.1 (HU8.out.here (HBA.out.trans hbr)) (by omega) ((HG7.out.here HBZ.out).all _ (List.mem_of_getElem? hx2)));rw[hafe] at HAF
    dsimp only at HAF
    unfold FsPost at HAF;have hl:=Qk (HBN.out.at_ 0 rfl) (Qe f2 u2);have hmz:(0:Int)<=(m:Int):=by omega
    have hmz2:(m:Int)<(zs.length:Int):=by omega
    rw[show YM vb key=.tuple #[.int .i64 (m:Nat),.bool true] by unfold YM;rw[hf]];subst hA2;clear hf hfi hT hafe hb2 hx2 hm2 hr2 hbr;go_wp2_with fail
    generalize (w8.alloc (.cells (Qa (YZ key) Qg) 44)).setRow w8.1.size (Qa f2 u2)=W10 at*;refine HAF.out.mono ?_;rintro e w11 ⟨A11,c11,us2,rfl,hf11,hm11,hr11,hb11⟩;have HF11:=jq hf11;have HM11:=jq hm11;have HR11:=jq (And.intro hr11.1 hr11.2.1);have H11:=jq (HBN.out.bare.here hb11);have HB11:=jq (HBZ.out.trans (hb11.mono HBZ.out.size));have HL11:=jq (show us2.length<=12+(j+1) by have h:=congrArg List.length hm11;rw[List.length_map] at h;have:=HS4.out;omega);clear hf11 hm11 hr11 hb11 HAF HBN HBZ hl;go_wp2_with fail
    go_roundw
    case rel=>exact⟨j+1,A11,c11,us2,by omega,by go_num,rfl,rfl,H11,HB11,HF11,HR11,(show VwOk (us2.map (·.1)) by rw[HM11.out];exact HS2.out),(show ∀x,Qd (us2.map (·.1)) x=if x∈ks.take (j+1) then Qd vb x else Qd va x by rw[HM11.out];exact HS3.out),HL11⟩
    case measure=>simp[intOf];omega
  ·obtain rfl:j=ks.length:=by omega
   have hend:us.map (·.1)=vb:=HTE.out _ HUV.out (by
    have h:=HUL.out;rw[List.take_of_length_le (Nat.le_refl _)] at h;exact h)
   have hul:us.length<=12:=by have h:=congrArg List.length hend;rw[List.length_map] at h;omega
   have HF8:=jq ((HYF.out).here HBR.out);have HG8:=jq (HG7.out.here HBR.out);have HSM:=jq (QL Ax A2 us.length zs.length cx c2 us zs wr H.out.pw HU.out HG8.out (by omega) (by omega));rw[decide_eq_true (show us.map (·.1)=zs.map (·.1) by rw[hend,HZ3.out])] at HSM;clear hend HBR HU HUR HUV HUL HUN hlt hj HG7 HK7 HYF HTE HSTEP HKL;go_wp2_with fail
   refine HSM.out.mono ?_;rintro e w8 ⟨rfl,hb8⟩;have H8:=jq (H.out.here hb8);have HF9:=jq (HF8.out.here hb8);have HG9:=jq (HG8.out.here hb8);clear hb8 H HF8 HG8 HSM;have HAWK:=jq (show Calls Tryz.prog 12 #[] w8 fun e w'=>e=.returned (.bool true)/\Below w8.1.size w8 w' from HAE.out _ H8)
   by_cases hk:0<ks.length
   rotate_left
   ·go_wp2_with fail
    refine HAWK.out.mono ?_;rintro e w9 ⟨rfl,hb9⟩;go_wp2_with fail
    first|go_ret|skip
    exact⟨rfl,(H8.out.here hb9).bl⟩
   obtain⟨⟨e1,e2⟩,e3,e4⟩:=Zf1 HVA.out HVB.out (HD2.out hk)
   have HE3:=jq e3;have HE4:=jq e4;clear e3 e4
   by_cases hdm:d<= -25567
   ·go_wp2_with fail
    refine HAWK.out.mono ?_;rintro e w9 ⟨rfl,hb9⟩;go_wp2_with fail
    first|go_ret|skip
    exact⟨rfl,(H8.out.here hb9).bl⟩
   have hwd:wrap64 (d-1)=d-1:=by unfold wrap64;omega
   clear HAWK;have HU9:=jq (YA A1 ys.length c1 ys (d-1) w8 H8.out.pw HF9.out (by omega));rw[HY2.out,Jy HVA.out (d-1) (by omega) (by omega)] at HU9
   dsimp only at HU9
   unfold FsPost at HU9;go_wp2_with fail
   refine HU9.out.mono ?_;rintro e w9 ⟨B9,k9,r9,rfl,hg9,hm9,_,hb9⟩;have H9:=jq (H8.out.here hb9);have G9:=jq hg9;have M9:=jq hm9;have HA9:=jq (HF9.out.here hb9);have HC9:=jq (HG9.out.here hb9);clear hg9 hm9 hb9 HU9 H8;have HU10:=jq (YA A2 zs.length c2 zs (d-1) w9 H9.out.pw HC9.out (by omega));rw[HZ3.out,Jy HVB.out (d-1) (by omega) (by omega)] at HU10
   dsimp only at HU10
   unfold FsPost at HU10;go_wp2_with fail
   refine HU10.out.mono ?_;rintro e w10 ⟨B10,k10,r10,rfl,hg10,hm10,_,hb10⟩;have H10:=jq (H9.out.here hb10);have G10:=jq hg10;have M10:=jq hm10;have HA10:=jq (HA9.out.here hb10);have HC10:=jq (HC9.out.here hb10);have I9:=jq (G9.out.here hb10);clear hg10 hm10 hb10 HU10 H9 HA9 HC9 G9;have HU11:=jq (YA A1 ys.length c1 ys (d) w10 H10.out.pw HA10.out (by omega));rw[HY2.out,Jy HVA.out (d) (by omega) (by omega)] at HU11
   dsimp only at HU11
   unfold FsPost at HU11;go_wp2_with fail
   refine HU11.out.mono ?_;rintro e w11 ⟨B11,k11,r11,rfl,hg11,hm11,_,hb11⟩;have H11:=jq (H10.out.here hb11);have G11:=jq hg11;have M11:=jq hm11;have HC11:=jq (HC10.out.here hb11);have J9:=jq (I9.out.here hb11);have J10:=jq (G10.out.here hb11);clear hg11 hm11 hb11 HU11 H10 HA10 HC10 I9 G10;have HU12:=jq (YA A2 zs.length c2 zs (d) w11 H11.out.pw HC11.out (by omega));rw[HZ3.out,Jy HVB.out (d) (by omega) (by omega)] at HU12
   dsimp only at HU12
   unfold FsPost at HU12;go_wp2_with fail
   refine HU12.out.mono ?_;rintro e w12 ⟨B12,k12,r12,rfl,hg12,hm12,_,hb12⟩;have H12:=jq (H11.out.here hb12);have G12:=jq hg12;have M12:=jq hm12;have K9:=jq (J9.out.here hb12);have K10:=jq (J10.out.here hb12);have K11:=jq (G11.out.here hb12)
   have L9:=jq (show r9.length<=12/\r10.length<=12/\r11.length<=12/\r12.length<=12 by
    have q9:=congrArg List.length M9.out;have q10:=congrArg List.length M10.out;have q11:=congrArg List.length M11.out;have q12:=congrArg List.length M12.out;rw[List.length_map] at q9 q10 q11 q12;have z9:=List.length_filter_le (fun f:Fct=>decide (f.day<=d-1)) va;have z10:=List.length_filter_le (fun f:Fct=>decide (f.day<=d-1)) vb;have z11:=List.length_filter_le (fun f:Fct=>decide (f.day<=d)) va;have z12:=List.length_filter_le (fun f:Fct=>decide (f.day<=d)) vb;omega)
   have HS1:=jq (QL B9 B10 r9.length r10.length k9 k10 r9 r10 w12 H12.out.pw K9.out K10.out (by have:=L9.out;omega) (by have:=L9.out;omega));rw[decide_eq_true (show r9.map (·.1)=r10.map (·.1) by rw[M9.out,M10.out];exact HE3.out)] at HS1;clear hg12 hm12 hb12 HU12 H11 HC11 J9 J10;go_wp2_with fail
   refine HS1.out.mono ?_;rintro e w13 ⟨rfl,hb13⟩;have H13:=jq (H12.out.here hb13);have HS2:=jq (QL B11 B12 r11.length r12.length k11 k12 r11 r12 w13 H13.out.pw (K11.out.here hb13) (G12.out.here hb13) (by have:=L9.out;omega) (by have:=L9.out;omega));rw[decide_eq_false (show ¬r11.map (·.1)=r12.map (·.1) by rw[M11.out,M12.out];exact HE4.out)] at HS2;clear hb13 HS1 H12;go_wp2_with fail
   refine HS2.out.mono ?_;rintro e w14 ⟨rfl,hb14⟩;have H14:=jq (H13.out.here hb14);clear hb14 HS2 H13;go_wp2_with fail
   refine(HAE.out _ H14).mono ?_;rintro e w15 ⟨rfl,hb15⟩;go_wp2_with fail
   first|go_ret|skip
   exact⟨rfl,(H14.out.here hb15).bl⟩
end
end Go.Proofs.YtbcnkcldlealjaaGreatDoor
