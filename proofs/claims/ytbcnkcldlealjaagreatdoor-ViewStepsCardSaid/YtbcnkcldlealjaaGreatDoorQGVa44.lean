/- Vwt. -/
import Derived.Test.YtbcnkcldlealjaaGreatDoorQGVa36
import Derived.Test.YtbcnkcldlealjaaGreatDoorQGVa43
set_option maxRecDepth 100000
set_option maxHeartbeats 4000000
namespace Go.Proofs.YtbcnkcldlealjaaGreatDoor
open Go.Lib renaming hid→jq
section
open Go.RowKit Go.Shelf
attribute [local go_sem] Oper.semAt_some
attribute [local go_sem ↓] Qr QC
theorem Zja{l:List Fct}(h:VA l=0){k:Nat}(hk:k<=l.length):ofV l (k:Int)=(VF (l.take k),0):=by
 unfold ofV;rw[if_neg (by simpa using h),if_neg (by omega),Int.toNat_natCast]
theorem ZdJ(A:Option Addr)(n c:Nat)(xs:List Fx)(w:World)(hp:Env w)(hcap:n<=c)(hnil:A=none->c=0)(hs:Sl Qt 21 w w.1.size A n xs)(hn:n<=maxLen)(hi:∀x∈xs,FxI w x):
 Calls Tryz.prog 7 #[.slice A n c] w fun e w'=>e=.returned (.bool true)/\Below w.1.size w w':=by
 have H:=jq (Kp.start hp);have HN:=jq hs.1;have HFI:=jq (ZcC A n c xs w hp hs hi hn);have HFX:=jq (fun(hg:∀x∈xs,GrX x)=>XB hs hi hg);have HOF:=jq (fun(hg:∀x∈xs,GrX x) (h12:n<=12) (k:Nat) W (hb:Below w.1.size w W)=>ZaE A n c xs (k:Int) W (hp.here hb) hcap hnil ((XB hs hi hg).here hb) (by omega));have HAE:=jq (show ∀W,Hid (Kp w [] W)->Calls Tryz.prog 12 #[] W fun e w'=>e=.returned (.bool true)/\Below W.1.size W w' from fun W h=>Zbx W h.out.pw);clear hp hs hi hcap hnil;go_enter Tryz.func7,Tryz.ntmps7
 go_wp2_with fail
 refine HFI.out.mono ?_;rintro e w1 ⟨⟨b,rfl,hP⟩,hb1⟩;have HP:=jq hP;have H1:=jq (H.out.here hb1);clear hP hb1 H HFI
 cases b with
 |false=>
  go_wp2_with fail
  refine(HAE.out _ H1).mono ?_;rintro e w2 ⟨rfl,hb2⟩;go_wp2_with fail
  first|go_ret|skip
  exact⟨rfl,(H1.out.here hb2).bl⟩
 |true=>
 obtain⟨p1,p2,p3⟩:=HP.out rfl
 have HLG:=jq ((Jr _).1 p3);have HSTP:=jq (fun(k:Nat) (f:Fct) (h:(xs.map (·.1))[k]?=some f)=>ZcM ((Jr _).1 p3) h);have HXS:=jq (HFX.out p2)
 have HOX:=jq (show ∀k,k<=n->∀W,Below w.1.size w W->Calls Tryz.prog 13 #[.slice A n c,.int .i64 (k:Int)] W (FsPost (VF ((xs.map (·.1)).take k)) 0 W) from fun k hk W hb=>by
  have h:=HOF.out p2 p1 k W hb;rw[Zja p3 (by rw[List.length_map,<-HN.out];exact hk)] at h;exact h)
 have HVL:=jq (show ∀k,(VF ((xs.map (·.1)).take k)).length<=12 from fun k=>by
  have h:=ZbY ((xs.map (·.1)).take k);rw[List.length_take,List.length_map] at h;have:=HN.out
  omega)
 have hn12:n<=12:=p1;have HO0:=jq (HOX.out 0 (Nat.zero_le _) _ H1.out.bl);rw[show VF ((xs.map (·.1)).take 0)=[] from rfl] at HO0;unfold FsPost at HO0;clear p1 p2 p3 HP HOF HFX;rw[show((0:Nat):Int)=0 from rfl] at HO0;go_wp2_with fail
 refine HO0.out.mono ?_;rintro e w2 ⟨A1,c1,ys,rfl,hf2,hy2,hc2,hb2⟩;have hl2:=Zel hy2 (show([]:List Fct).length=0 from rfl);obtain rfl:ys=[]:=List.eq_nil_of_length_eq_zero hl2;rw[List.length_nil] at hf2 hc2 ⊢;have H2:=jq (H1.out.here hb2);have HF2:=jq hf2;have HR2:=jq (And.intro hc2.1 hc2.2.1);clear hb2 hf2 hy2 hc2 hl2 H1 HO0;go_wp2_with fail
 go_loopw [3,5,6,7,8,9,10,29] (fun VE _ _ _ _ _ _ i wr=>∃(k:Nat) (A1:Option Addr) (c1:Nat) (ys:List Fx),k<=n/\i=.int .i64 k/\VE=.slice A1 ys.length c1/\Hid (Kp w [] wr)/\Hid (Fxs wr wr.1.size A1 ys.length ys)/\Hid (ys.length<=c1/\(A1=none->c1=0))/\Hid (ys.map (·.1)=VF ((xs.map (·.1)).take k))) (fun _ _ _ _ _ _ _ i _=>n-(intOf i).toNat)
 case atStart=>exact⟨0,A1,c1,[],Nat.zero_le _,rfl,rfl,H2,HF2,HR2,rfl⟩
 case round=>
  clear H2 HF2 HR2;obtain⟨k,A1,c1,ys,hk,rfl,rfl,H,HF,HR,HY⟩:=hrel
  by_cases hlt:k<n
  ·obtain⟨b,off,f,v,rfl,hb,hx,hm,hr⟩:=(HXS.out.here H.out.bl).at_ hlt
   have hld:=Ql hr;have hst:=fun cs (hc:cs.size=21)=>Qh wr f v (cs:=cs) hc
   obtain⟨s1,s2⟩:=HSTP.out k f (by rw[List.getElem?_map,hx];rfl)
   have hyl:=HVL.out k;rw[<-HY.out,List.length_map] at hyl;have HB:=jq (H.out.new wr.1.size rfl (Qb f v) 44);have HBA:=jq ((Below.refl wr.1.size wr).alloc (Nat.le_refl _) (.cells (Qb f v) 44));have HAF:=jq (Zc2 A1 ys.length c1 ys f v (wr.alloc (.cells (Qb f v) 44)) HB.out.pw HR.out.2 HR.out.1 (HF.out.here HBA.out) (by omega) (hm.here HBA.out));rw[HY.out,s1] at HAF
   dsimp only at HAF
   unfold FsPost at HAF;have HS2:=jq s2;clear hx hr hb hm s1 s2 hyl HF HR HY;go_upto_region 9 with (fail)
   generalize wr.alloc (.cells (Qb f v) 44)=W1 at*;clear hld hst;generalize wr.1.size=b1 at*;have hl1:=Qm (HB.out.at_ 0 rfl) (Qe f v);go_wp2_with fail
   refine HAF.out.mono ?_;rintro e w3 ⟨A3,c3,zs,rfl,hf3,hz3,_,hb3⟩;have H3:=jq (HB.out.bare.here hb3);have HF3:=jq hf3;have HZ3:=jq hz3;have HOK:=jq (HOX.out (k+1) hlt _ H3.out.bl);rw[show((k+1:Nat):Int)=(k:Int)+1 by omega] at HOK;unfold FsPost at HOK;clear hb3 hf3 hz3 hl1 HAF HB HBA;go_wp2_with fail
   refine HOK.out.mono ?_;rintro e w4 ⟨A4,c4,us,rfl,hf4,hu4,hr4,hb4⟩;have H4:=jq (H3.out.here hb4);have hul:=HVL.out (k+1);rw[<-hu4,List.length_map] at hul;have hzl:=HVL.out (k+1);rw[<-HZ3.out,List.length_map] at hzl;have HF4:=jq hf4;have HU4:=jq hu4;have HR4:=jq (And.intro hr4.1 hr4.2.1);have HSM:=jq (XZ A3 A4 zs.length us.length c3 c4 zs us w4 H4.out.pw (HF3.out.here hb4) hf4 (by omega) (by omega));rw[decide_eq_true (show zs.map (·.1)=us.map (·.1) by rw[HZ3.out,hu4])] at HSM;have HUL:=jq hul;clear hb4 hf4 hu4 hr4 hul hzl HOK HF3 HZ3 H3;go_wp2_with fail
   refine HSM.out.mono ?_;rintro e w5 ⟨rfl,hb5⟩;have H5:=jq (H4.out.here hb5);have HF5:=jq (HF4.out.here hb5);have HCK:=jq (QU A4 us.length c4 us w5 H5.out.pw HF5.out (by have:=HUL.out;omega));rw[HU4.out,HS2.out] at HCK;clear hb5 HSM HF4 H4;go_wp2_with fail
   refine HCK.out.mono ?_;rintro e w6 ⟨rfl,hb6⟩;have H6:=jq (H5.out.here hb6);have HF6:=jq (HF5.out.here hb6);clear hb6 HCK HF5 H5;go_wp2_with fail
   go_roundw
   case rel=>exact⟨k+1,A4,c4,us,by omega,by go_num,rfl,H6,HF6,HR4,HU4⟩
   case measure=>simp[intOf];omega
  ·obtain rfl:k=n:=by omega
   go_wp2_with fail
   refine(HAE.out _ H).mono ?_;rintro e w5 ⟨rfl,hb5⟩;go_wp2_with fail
   first|go_ret|skip
   exact⟨rfl,(H.out.here hb5).bl⟩
end
end Go.Proofs.YtbcnkcldlealjaaGreatDoor
