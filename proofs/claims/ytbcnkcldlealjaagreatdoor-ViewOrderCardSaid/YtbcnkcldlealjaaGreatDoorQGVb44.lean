/- Vwo. -/
import Derived.Test.YtbcnkcldlealjaaGreatDoorQGVb30
import Derived.Test.YtbcnkcldlealjaaGreatDoorQGVb33
import Derived.Test.YtbcnkcldlealjaaGreatDoorQGVb43
set_option maxRecDepth 100000
set_option maxHeartbeats 8000000
namespace Go.Proofs.YtbcnkcldlealjaaGreatDoor
open Go.Lib renaming hid→jq
section
open Go.RowKit Go.Shelf
attribute [local go_sem] Oper.semAt_some
attribute [local go_sem ↓] Go.wp_at_zero Go.wp_at_succ Qq QA Zh1
theorem Zey(A:Option Addr)(n c:Nat)(xs:List Fx)(Ao:Option Addr)(no co:Nat)(os:List Nat)(w:World)(hp:Env w)(hcap:n<=c)(hnil:A=none->c=0)(hs:Sl Qt 21 w w.1.size A n xs)(hn:n<=maxLen)(hi:∀x∈xs,FxI w x)(hos:Sl (fun b:Nat=>[Value.int .u8 b]) 1 w w.1.size Ao no os)(hno:no<=maxLen)(hob:∀x∈os,x<=255):
 Calls Tryz.prog 10 #[.slice A n c,.slice Ao no co] w fun e w'=>e=.returned (.bool true)/\Below w.1.size w w':=by
 have hml:maxLen<=9223372036854775807:=by decide
 have H:=jq (Kp.start hp);have HN:=jq hs.1;have HGR:=jq (Za7 A n c xs w hp hs (ZeM hi) (by omega));have HFX:=jq (fun(hg:∀x∈xs,GrX x)=>Xo hs hi hg);have HOS:=jq hos;have HOB:=jq hob;have HAE:=jq (show ∀W,Hid (Kp w [] W)->Calls Tryz.prog 12 #[] W fun e w'=>e=.returned (.bool true)/\Below W.1.size W w' from fun W h=>Zag W h.out.pw);have HC:=jq (And.intro hcap hnil);have hno2:no<=9223372036854775807:=by omega
 clear hp hs hi hcap hnil hos hob hml;go_enter Tryz.func10,Tryz.ntmps10
 go_wp2_with fail
 refine HGR.out.mono ?_;rintro e w1 ⟨⟨b,rfl,hP⟩,hb1⟩;have HP:=jq hP;have H1:=jq (H.out.here hb1);clear hP hb1 H HGR
 cases b with
 |true=>
  go_wp2_with fail
  refine(HAE.out _ H1).mono ?_;rintro e w2 ⟨rfl,hb2⟩;go_wp2_with fail
  first|go_ret|skip
  exact⟨rfl,(H1.out.here hb2).bl⟩
 |false=>
 have HQ:=jq (HP.out rfl);clear HP
 by_cases hn12:12<n
 ·have i1:(12:Int)<(n:Int):=by omega
  clear hn12;go_wp2_with fail
  refine(HAE.out _ H1).mono ?_;rintro e w2 ⟨rfl,hb2⟩;go_wp2_with fail
  first|go_ret|skip
  exact⟨rfl,(H1.out.here hb2).bl⟩
 have i1:¬(12:Int)<(n:Int):=by omega
 have hn13:n<=12:=by omega
 have HXS:=jq (HFX.out HQ.out.2);have HD0:=jq (show OkD ((xs.map (·.1)).take 0) by rw[List.take_zero];exact⟨.nil,fun f hf=>by cases hf⟩);clear hn12 HFX HQ;go_wp2_with fail
 go_loopw [5,6,29] (fun _ _ i wr=>∃k:Nat,k<=n/\i=.int .i64 k/\Hid (Kp w [] wr)/\Hid (OkD ((xs.map (·.1)).take k))) (fun _ _ i _=>n-(intOf i).toNat)
 case atStart=>exact⟨0,Nat.zero_le _,rfl,H1,HD0⟩
 case round=>
  clear H1 HD0;obtain⟨k,hk,rfl,H,HD⟩:=hrel
  by_cases hlt:k<n
  ·obtain⟨b,off,f,v,rfl,hb,hx,hm,hr⟩:=(HXS.out.here H.out.bl).at_ hlt
   have hld:=Qi hr;have hst:=fun cs (hc:cs.size=21)=>Qj wr f v (cs:=cs) hc
   have HX:=jq (show(xs.map (·.1))[k]?=some f by rw[List.getElem?_map,hx];rfl);have HB:=jq (H.out.new wr.1.size rfl (Qa f v) 44);have HM:=jq (hm.here ((Below.refl wr.1.size wr).alloc (Nat.le_refl _) (.cells (Qa f v) 44)));clear hx hr hb hm H;go_upto_region 6 with (fail)
   generalize wr.alloc (.cells (Qa f v) 44)=W1 at*;clear hld hst;obtain⟨b1,hb1⟩:∃b1,wr.1.size=b1:=⟨_,rfl⟩
   rw[hb1] at HB ⊢;clear hb1;have hl1:=Qk (HB.out.at_ 0 rfl) (Qe f v);go_wp2_with fail
   refine(Jq HB.out.pw HM.out).mono ?_;rintro e w3 ⟨rfl,hb3⟩;have H3:=jq (HB.out.here hb3);clear hb3 hl1 HB HM
   dsimp only
   by_cases hz:Qf f=0
   rotate_left
   ·generalize Qf f=z at*;have hz2:(z !=0)=true:=by simpa using hz
    clear hz;go_wp2_with fail
    refine(HAE.out _ (show Hid (Kp w [] w3) from H3.out.bare)).mono ?_;rintro e w4 ⟨rfl,hb4⟩;go_wp2_with fail
    first|go_ret|skip
    exact⟨rfl,(H3.out.here hb4).bl⟩
   have HZ:=jq hz;rw[hz];clear hz;have y2:=H3.out.c 0 2 rfl (show(Qa f v)[2]?=some (.bool f.cancelled) from rfl)
   cases hcn:f.cancelled with
   |true=>
    rw[hcn] at y2;clear hcn;go_wp2_with fail
    refine(HAE.out _ (show Hid (Kp w [] w3) from H3.out.bare)).mono ?_;rintro e w4 ⟨rfl,hb4⟩;go_wp2_with fail
    first|go_ret|skip
    exact⟨rfl,(H3.out.here hb4).bl⟩
   |false=>
   rw[hcn] at y2;have HCN:=jq hcn;clear hcn;have HIN:=jq (Zke (some ⟨b,off,none⟩) k c (xs.take k) f v b1 w3 (H3.out.at_ 0 rfl) ((HXS.out.here H3.out.bl).upto (by omega)) (by omega));rw[Zgd] at HIN;have hkc:k<=c:=by have:=HC.out.1;omega
   cases hany:((xs.map (·.1)).take k).any fun x=>x.key==f.key with
   |true=>
    rw[hany] at HIN;clear hany;go_wp2_with fail
    refine HIN.out.mono ?_;rintro e w5 ⟨rfl,hb5⟩;have H5:=jq (H3.out.here hb5);go_wp2_with fail
    refine(HAE.out _ (show Hid (Kp w [] w5) from H5.out.bare)).mono ?_;rintro e w6 ⟨rfl,hb6⟩;go_wp2_with fail
    first|go_ret|skip
    exact⟨rfl,(H5.out.here hb6).bl⟩
   |false=>
    rw[hany] at HIN
    have HD2:=jq (show OkD ((xs.map (·.1)).take (k+1)) by
     rw[Zch HX.out];exact Zh9 HD.out HZ.out HCN.out hany)
    clear hany;go_wp2_with fail
    refine HIN.out.mono ?_;rintro e w5 ⟨rfl,hb5⟩;have H5:=jq (H3.out.here hb5).bare;clear hb5 H3 HIN y2;go_wp2_with fail
    go_roundw
    case rel=>exact⟨k+1,by omega,by go_num,H5,HD2⟩
    case measure=>simp[intOf];omega
  ·obtain rfl:k=n:=by omega
   have HOK:=jq (show OkD (xs.map (·.1)) by have h:=HD.out;rwa [List.take_of_length_le (by rw[List.length_map,<-HN.out];exact Nat.le_refl _)] at h);have HCL:=jq (Vz A k c xs wr HC.out.2 HC.out.1 (HXS.out.here H.out.bl).sl (by omega));clear HD hk hlt;go_wp2_with fail
   refine HCL.out.mono ?_;rintro e w2 ⟨A3,c3,rfl,ho3,hb3⟩;have H2:=jq (H.out.here hb3);have HR2:=jq (show Fxs w2 w2.1.size A3 xs.length xs from⟨ho3.sl Qc,(HXS.out.here H2.out.bl).all⟩);have HRR:=jq (And.intro ho3.room.1 ho3.room.2.1);clear ho3 hb3 HCL H;have HQ0:=jq (And.intro HR2.out HRR.out);clear HR2 HRR;go_wp2_with fail
   go_loopw [7,8,9,10,11,12,13,14,54] (fun rest a b _ _ _ _ _ i wr=>∃(j:Nat) (Ar:Option Addr) (cr:Nat) (rs:List Fx) (Aa:Option Addr) (ca:Nat) (us:List Fx) (Ab:Option Addr) (cb:Nat) (vs:List Fx) (ps:List Fct),j<=k/\i=.int .i64 j/\rest=.slice Ar rs.length cr/\a=.slice Aa us.length ca/\b=.slice Ab vs.length cb/\Hid (Kp w [] wr)/\
    Hid (Fxs wr wr.1.size Ar rs.length rs/\rs.length<=cr/\(Ar=none->cr=0))/\Hid (Fxs wr wr.1.size Aa us.length us/\us.length<=ca/\(Aa=none->ca=0)/\us.map (·.1)=QC (((xs.map (·.1)).take j).map QE))/\Hid (Fxs wr wr.1.size Ab vs.length vs/\vs.length<=cb/\(Ab=none->cb=0)/\vs.map (·.1)=QC (ps.map QE))/\Hid ((ps++rs.map (·.1)).Perm (xs.map (·.1))/\ps.length=j)) (fun _ _ _ _ _ _ _ _ i _=>k-(intOf i).toNat)
   case atStart=>exact⟨0,A3,c3,xs,none,0,[],none,0,[],[],Nat.zero_le _,rfl,rfl,rfl,rfl,H2,HQ0,(show _/\_/\_/\_ from⟨Fxs.nil,Nat.le_refl _,fun _=>rfl,rfl⟩),(show _/\_/\_/\_ from⟨Fxs.nil,Nat.le_refl _,fun _=>rfl,rfl⟩),(show _/\_ from⟨List.Perm.refl _,rfl⟩)⟩
   case round=>
    clear H2 HQ0;obtain⟨j,Ar,cr,rs,Aa,ca,us,Ab,cb,vs,ps,hj,rfl,rfl,rfl,rfl,H,HR,HU,HV,HP⟩:=hrel
    have hul:us.length<=12:=by have h:=congrArg List.length HU.out.2.2.2;rw[List.length_map,XK,List.length_map,List.length_take,List.length_map] at h;omega
    have hrl:ps.length+rs.length=k:=by have h:=HP.out.1.length_eq;rw[List.length_append,List.length_map,List.length_map,<-HN.out] at h;exact h
    have hpj:=HP.out.2;have hvl:vs.length<=12:=by have h:=congrArg List.length HV.out.2.2.2;rw[List.length_map,XK,List.length_map] at h;omega
    by_cases hlt:j<k
    ·obtain⟨b,off,f,v,rfl,hb,hx,hm,hr⟩:=(HXS.out.here H.out.bl).at_ hlt
     have hld:=Qi hr;have hst:=fun cs (hc:cs.size=21)=>Qj wr f v (cs:=cs) hc
     have HX:=jq (show(xs.map (·.1))[j]?=some f by rw[List.getElem?_map,hx];rfl);have HB:=jq (H.out.new wr.1.size rfl (Qa f v) 44);have HBA:=jq ((Below.refl wr.1.size wr).alloc (Nat.le_refl _) (.cells (Qa f v) 44));have HM:=jq (hm.here HBA.out);have HAF:=jq (Yz Aa us.length ca us f v (wr.alloc (.cells (Qa f v) 44)) HB.out.pw HU.out.2.2.1 HU.out.2.1 (HU.out.1.here HBA.out) (by omega) HM.out)
     rw[HU.out.2.2.2,ZdO HOK.out (by rw[List.length_map,<-HN.out];exact hn13) (show((xs.map (·.1)).take j++f::(xs.map (·.1)).drop (j+1)).Perm (xs.map (·.1)) by
      have h:=List.take_append_drop j (xs.map (·.1));obtain⟨hjl,e⟩:=List.getElem?_eq_some_iff.1 HX.out
      rw[List.drop_eq_getElem_cons hjl,e] at h;rw[h]),<-Zch HX.out] at HAF
     dsimp only at HAF
     unfold FsPost at HAF;have HR1:=jq (HR.out.1.here HBA.out);have HV1:=jq (HV.out.1.here HBA.out);clear hx hr hb hm H HU;go_upto_region 14 with (fail)
     generalize wr.alloc (.cells (Qa f v) 44)=W1 at*;clear hld hst;obtain⟨b1,hb1⟩:∃b1,wr.1.size=b1:=⟨_,rfl⟩
     have HB1:=jq hb1;rw[hb1] at HB ⊢;clear hb1;go_upto_if 62 with (fail)
     go_cut [14] (fun kk wc=>∃m:Nat,m<rs.length/\kk=.int .i64 m/\W1=wc)
     case first=>
      by_cases hjo:j<no
      ·obtain⟨b4,off4,o,hAo,hb4,ho4,hc4⟩:=(HOS.out.here HB.out.bl).at_ hjo
       have d0:W1.cell? ⟨b4,off4+j,none⟩=some (.int .u8 (o:Nat)):=by have h:=hc4 0 _ rfl;rwa [Nat.mul_one,Nat.add_zero] at h
       have ho255:=HOB.out o (List.mem_of_getElem? ho4);have hwo:wrap64 (o:Int)=(o:Int):=by unfold wrap64;omega
       obtain⟨m,hm⟩:∃m,m=o%rs.length:=⟨_,rfl⟩
       have hml:m<rs.length:=by rw[hm];exact Nat.mod_lt _ (by omega)
       have htm:Int.tmod (o:Int) (rs.length:Int)=(m:Int):=by rw[hm];exact(Int.ofNat_tmod o rs.length).symm
       have hr0:¬(rs.length:Int)=0:=by omega
       have i2:(j:Int)<(no:Int):=by omega
       subst hAo;clear hm hb4 ho4 hc4;go_wp2_with fail
       go_meet
       exact⟨m,hml,rfl,rfl⟩
      ·have i2:¬(j:Int)<(no:Int):=by omega
       go_wp2_with fail
       go_meet
       exact⟨0,by omega,rfl,rfl⟩
     case rest=>
     obtain⟨m,hml,rfl,rfl⟩:=hcut
     have hl1:=Qk (HB.out.at_ 0 rfl) (Qe f v);go_wp2_with fail
     refine HAF.out.mono ?_;rintro e w3 ⟨A5,c5,us2,rfl,hf5,hu5,hr5,hb5⟩;have H3:=jq (HB.out.bare.here hb5);have HR3:=jq (HR1.out.here hb5);have HV3:=jq (HV1.out.here hb5);have HF5:=jq hf5;have HU5:=jq hu5;have HR5:=jq (And.intro hr5.1 hr5.2.1);clear hl1 hf5 hu5 hr5 hb5 HAF HR1 HV1 HB HBA;obtain⟨b6,off6,g,u,hAr,hb6,hy,hmy,hry⟩:=HR3.out.at_ hml
     have hld2:=Qi hry;have HY:=jq (show(rs.map (·.1))[m]?=some g by rw[List.getElem?_map,hy];rfl)
     have HPE:=jq (show(ps++g::((rs.map (·.1)).take m++(rs.map (·.1)).drop (m+1))).Perm (xs.map (·.1)) by
      have h:=List.take_append_drop m (rs.map (·.1));obtain⟨hml2,e⟩:=List.getElem?_eq_some_iff.1 HY.out
      rw[List.drop_eq_getElem_cons hml2,e] at h;have h2:=HP.out.1;rw[<-h] at h2;exact(List.Perm.append_left ps List.perm_middle.symm).trans h2)
     have HAG:=jq (Yz Ab vs.length cb vs g u w3 H3.out.pw HV.out.2.2.1 HV.out.2.1 HV3.out (by omega) hmy);rw[HV.out.2.2.2,ZdO HOK.out (by rw[List.length_map,<-HN.out];exact hn13) HPE.out] at HAG
     dsimp only at HAG
     unfold FsPost at HAG;have hmz:(0:Int)<=(m:Int):=by omega
     have hmz2:(m:Int)<(rs.length:Int):=by omega
     have hmc:m<=cr:=by have:=HR.out.2.1;omega
     have hrc:rs.length<=cr:=HR.out.2.1;clear hb6 hy hmy hry;subst hAr;go_wp2_with fail
     refine HAG.out.mono ?_;rintro e w4 ⟨A7,c7,vs2,rfl,hf7,hv7,hr7,hb7⟩;have H4:=jq (H3.out.here hb7);have HR4:=jq (HR3.out.here hb7);have HF6:=jq (HF5.out.here hb7);have HF7:=jq hf7;have HV7:=jq hv7;have HR7:=jq (And.intro hr7.1 hr7.2.1);clear hf7 hv7 hr7 hb7 HAG hld2 HR3 HV3 H3 HF5;have hsl:=fun W=>ZcP W (some ⟨b6,off6,none⟩) rs.length cr (m+1) hml
     rw[show((m+1:Nat):Int)=(m:Int)+1 by omega] at hsl;have hwm:IntKind.i64.wrap ((m:Int)+1)=(m:Int)+1:=by rw[IntKind.wrap_i64];omega
     have et:(rs.take m).length=m:=by rw[List.length_take];omega
     have ed:(rs.drop (m+1)).length=rs.length-(m+1):=List.length_drop
     have HCC:=jq (show ∀W,Below w4.1.size w4 W->BlkB W w4.1.size #[.slice (some ⟨b6,off6,none⟩) m cr,.slice (ZbL (some ⟨b6,off6,none⟩) cr (m+1)) (rs.length-(m+1)) (cr-(m+1))] 22->
      Calls Tryz.prog 40 #[.slice (some ⟨w4.1.size,0,none⟩) 2 2] W (RetOwn Qt 21 44 W.1.size W (rs.take m++rs.drop (m+1))) from fun W hb hk=>by
      have h1:=((HR4.out.here hb).upto (m:=m) (by omega)).sl;have h2:=((HR4.out.here hb).cut (c:=cr) (k:=m+1) hml hrc).sl;refine ZcR (some ⟨b6,off6,none⟩) (ZbL (some ⟨b6,off6,none⟩) cr (m+1)) cr (cr-(m+1)) w4.1.size (rs.take m) (rs.drop (m+1)) W (by rw[et,ed];exact hk) (by rw[et];exact h1) (by rw[ed];exact h2) (by omega) (by omega))
     clear et ed;have hz0:Bz w4 w4:=Bz.refl w4;go_upto_region 20 with (fail)
     go_region_held3 (fun _=>True) (first|exact trivial|go_keep)
      (first
        |(go_at_call 40;have hbk:BlkB (w4.alloc (.cells #[.slice (some ⟨b6,off6,none⟩) m cr,.slice (ZbL (some ⟨b6,off6,none⟩) cr (m+1)) (rs.length-(m+1)) (cr-(m+1))] 22)) w4.1.size #[.slice (some ⟨b6,off6,none⟩) m cr,.slice (ZbL (some ⟨b6,off6,none⟩) cr (m+1)) (rs.length-(m+1)) (cr-(m+1))] 22:=heap_alloc_new w4 _
          refine(HCC.out (w4.alloc (.cells #[.slice (some ⟨b6,off6,none⟩) m cr,.slice (ZbL (some ⟨b6,off6,none⟩) cr (m+1)) (rs.length-(m+1)) (cr-(m+1))] 22)).drew (show Bz w4 _ from(by repeat' (first|assumption|exact Bz.refl _|refine Bz.drew ?_|refine Bz.alloc ?_ _|refine Bz.set ?_ (by first|assumption|exact Nat.le_refl _|exact Bz.size (by assumption)) _ _))) hbk).mono ?_;rintro e w5 ⟨A8,c8,rfl,ho8,hb8⟩;have hz1:Bz w4 w5:=Bz.call (by repeat' (first|assumption|exact Bz.refl _|refine Bz.drew ?_|refine Bz.alloc ?_ _|refine Bz.set ?_ (by first|assumption|exact Nat.le_refl _|exact Bz.size (by assumption)) _ _)) hb8))
     all_goals
      have H5:=jq (H4.out.here hz1)
      have HR5b:=jq (show Fxs w5 w5.1.size A8 (rs.take m++rs.drop (m+1)).length (rs.take m++rs.drop (m+1))/\(rs.take m++rs.drop (m+1)).length<=c8/\(A8=none->c8=0) from
       ⟨⟨ho8.sl Qc,fun x hx=>by
         rcases List.mem_append.1 hx with hx|hx
         ·exact(HR4.out.here hz1).all x (List.mem_of_mem_take hx)
         ·exact(HR4.out.here hz1).all x (List.mem_of_mem_drop hx)⟩,ho8.room.1,ho8.room.2.1⟩)
      have HU5b:=jq (show Fxs w5 w5.1.size A5 us2.length us2/\us2.length<=c5/\(A5=none->c5=0)/\us2.map (·.1)=QC (((xs.map (·.1)).take (j+1)).map QE) from⟨HF6.out.here hz1,HR5.out.1,HR5.out.2,HU5.out⟩);have HV5b:=jq (show Fxs w5 w5.1.size A7 vs2.length vs2/\vs2.length<=c7/\(A7=none->c7=0)/\vs2.map (·.1)=QC ((ps++[g]).map QE) from⟨HF7.out.here hz1,HR7.out.1,HR7.out.2,HV7.out⟩)
      have HP5:=jq (show((ps++[g])++(rs.take m++rs.drop (m+1)).map (·.1)).Perm (xs.map (·.1))/\(ps++[g]).length=j+1 from
       ⟨by rw[List.append_assoc,List.map_append,List.map_take,List.map_drop];exact HPE.out,by rw[List.length_append,hpj];rfl⟩)
      have HZL:=jq (show min m rs.length+(rs.length-(m+1))=(rs.take m++rs.drop (m+1)).length by rw[List.length_append,List.length_take,List.length_drop]);generalize rs.take m++rs.drop (m+1)=zs at*;clear ho8 hb8 hbk hz0 hz1 hsl HCC HR4 HF6 HF7 HV7 HR7 HU5 HR5 HPE HY H4;go_wp2_with fail
      go_roundw
      case rel=>exact⟨j+1,A8,c8,zs,A5,c5,us2,A7,c7,vs2,ps++[g],by omega,by go_num,by rw[<-HZL.out],rfl,rfl,H5,HR5b,HU5b,HV5b,HP5⟩
      case measure=>simp[intOf];omega
    ·obtain rfl:j=k:=by omega
     have hrs:rs=[]:=List.eq_nil_of_length_eq_zero (by omega)
     have HPP:=jq (show QC (ps.map QE)=QC ((xs.map (·.1)).map QE) from Zib HOK.out (by
      have h:=HP.out.1;rw[hrs] at h;simpa using h))
     have HUM:=jq (show us.map (·.1)=QC ((xs.map (·.1)).map QE) by
      have h:=HU.out.2.2.2
      rwa [List.take_of_length_le (by rw[List.length_map,<-HN.out];exact Nat.le_refl _)] at h)
     have HVM:=jq (show vs.map (·.1)=QC ((xs.map (·.1)).map QE) by rw[<-HPP.out];exact HV.out.2.2.2)
     have hule:us.length=j:=by
      have h:=congrArg List.length HUM.out;rw[List.length_map,XK,List.length_map,List.length_map,<-HN.out] at h;exact h
     have HUF:=jq HU.out.1;have HVF:=jq HV.out.1;have HULE:=jq hule;clear hrs HPP HP HU HV HR hlt hj hrl hpj hule;generalize wr=W0 at*;go_wp2_with fail
     go_loopw [16,17,18,104] (fun _ _ _ i wq=>∃q:Nat,q<=j/\i=.int .i64 q/\Hid (Kp w [] wq)/\Hid (Below W0.1.size W0 wq)) (fun _ _ _ i _=>j-(intOf i).toNat)
     case atStart=>exact⟨0,Nat.zero_le _,rfl,H,Below.refl _ _⟩
     case round=>
      clear H;obtain⟨q,hq,rfl,H,HBR⟩:=hrel
      by_cases hlt:q<j
      ·obtain⟨b,off,f,v,rfl,hb,hx,hm,hr⟩:=(HXS.out.here H.out.bl).at_ hlt
       have hld:=Qi hr;have hst:=fun cs (hc:cs.size=21)=>Qj wr f v (cs:=cs) hc
       obtain⟨i,hfi,hvi⟩:=Zia HOK.out (show f∈xs.map (·.1) from List.mem_map.2 ⟨_,List.mem_of_getElem? hx,rfl⟩)
       have HB:=jq (H.out.new wr.1.size rfl (Qa f v) 44);have HBA:=jq (HBR.out.alloc HBR.out.size (.cells (Qa f v) 44));have HMB:=jq (List.mem_of_getElem? hx);have HWB:=jq (show W0.1.size<=wr.1.size from HBR.out.size);have HFD:=jq (Zbz Aa us.length ca us f.key (wr.alloc (.cells (Qa f v) 44)) (HUF.out.here HBA.out) (by omega));rw[HUM.out,show YM (QC ((xs.map (·.1)).map QE)) f.key=.tuple #[.int .i64 (i:Nat),.bool true] by unfold YM;rw[hfi]] at HFD
       have hil:i<us.length:=by
        have h:=(List.getElem?_eq_some_iff.1 hvi).1
        rwa [<-HUM.out,List.length_map] at h
       have HVI:=jq (show(us.map (·.1))[i]?=some (QE f) by rw[HUM.out];exact hvi);clear hx hr hb hm H hfi hvi;go_upto_region 27 with (fail)
       generalize wr.alloc (.cells (Qa f v) 44)=W1 at*;clear hld hst;generalize wr.1.size=b1 at*;have y0:=HB.out.c 0 0 rfl (show(Qa f v)[0]?=some (.string ⟨f.key.toArray⟩) from rfl);go_wp2_with fail
       refine HFD.out.mono ?_;rintro e w3 ⟨rfl,hb3⟩;have H3:=jq (HB.out.here hb3);have HB3:=jq (HBA.out.trans (hb3.mono HBA.out.size));clear y0 hb3 HB HBA HFD;have y1:=H3.out.c 0 1 rfl (show(Qa f v)[1]?=some (.int .i64 f.stamp) from rfl);have f1:=H3.out.f 0 1 rfl;have HS4:=jq (H3.out.set 0 1 rfl (.int .i64 0));simp only[List.set_cons_zero,Je] at HS4;have HB5:=jq (HB3.out.setCell (p:=⟨b1,1,none⟩) HWB.out (.int .i64 0));have hiz:(0:Int)<=(i:Int):=by omega
       have hiz2:(i:Int)<(us.length:Int):=by omega
       have hiz3:¬(us.length:Int)<=(i:Int):=by omega
       go_wp2_with fail
       go_upto_region 31 with (fail)
       generalize w3.setCell ⟨b1,1,none⟩ (.int .i64 0)=W5 at*;have HM5:=jq (Zdx ((HXS.out.here HS4.out.bl).all _ HMB.out))
       have hrow:∃b6 off6 u,Aa=some ⟨b6,off6,none⟩/\FxM W5 W5.1.size (QE f,u)/\∀X,Below W5.1.size W5 X->(Ji (.pointer (some ⟨b6,off6+i*21,none⟩))).run Tryz.prog X=.ok (.agg (Qa (QE f) u)) X:=by
        obtain⟨b6,off6,g,u,hA,hb6,hy,hmy,hry⟩:=(HUF.out.here HB5.out).at_ hil
        have e:g=QE f:=by
         have h:=HVI.out;rw[List.getElem?_map,hy] at h;exact Option.some.inj h
        subst e;exact⟨b6,off6,u,hA,hmy,fun X hX=>Qi (Xl hry hX hb6)⟩
       obtain⟨b6,off6,u,hA,hmy,hrun⟩:=hrow
       have hS:=jq (fun X (h:Bz W5 X)=>(show(Ji (.pointer (some ⟨b6,off6+i*21,none⟩))).run Tryz.prog X=.ok (.agg (Qa (QE f) u)) X/\(Ji (.pointer (some ⟨b1,0,none⟩))).run Tryz.prog X=.ok (.agg (Qa (QE f) v)) X from⟨hrun X h,Qk ((HS4.out.here h).at_ 0 rfl) (Qe (QE f) v)⟩));have HSF:=jq (fun X (h:Bz W5 X)=>Zae (QE f) (QE f) u v X (HS4.out.here h).pw (hmy.here h) (HM5.out.here h));simp only[decide_true] at HSF;have hz0:Bz W5 W5:=Bz.refl W5;subst hA;clear hrun hmy
       go_region_held3 (fun X=>(Ji (.pointer (some ⟨b6,off6+i*21,none⟩))).run Tryz.prog X=.ok (.agg (Qa (QE f) u)) X/\(Ji (.pointer (some ⟨b1,0,none⟩))).run Tryz.prog X=.ok (.agg (Qa (QE f) v)) X)
        (first|(exact hS.out _ (by repeat' (first|assumption|exact Bz.refl _|refine Bz.drew ?_|refine Bz.alloc ?_ _|refine Bz.set ?_ (by first|assumption|exact Nat.le_refl _|exact Bz.size (by assumption)) _ _)))|go_keep)
        (first
          |(go_at_call 41;refine(HSF.out _ (by repeat' (first|assumption|exact Bz.refl _|refine Bz.drew ?_|refine Bz.alloc ?_ _|refine Bz.set ?_ (by first|assumption|exact Nat.le_refl _|exact Bz.size (by assumption)) _ _))).mono ?_;rintro e w6 ⟨rfl,hb6⟩;have hz1:Bz W5 w6:=Bz.call (by repeat' (first|assumption|exact Bz.refl _|refine Bz.drew ?_|refine Bz.alloc ?_ _|refine Bz.set ?_ (by first|assumption|exact Nat.le_refl _|exact Bz.size (by assumption)) _ _)) hb6))
       all_goals
        have H6:=jq (HS4.out.here hz1).bare;have HB6:=jq (HB5.out.trans (show Below W0.1.size W5 w6 from Below.mono hz1 HB5.out.size));clear hS HSF hz0 hz1 hb6 HS4 HB5 HM5;go_wp2_with fail
        go_roundw
        case rel=>exact⟨q+1,by omega,by go_num,H6,HB6⟩
        case measure=>simp[intOf];omega
      ·obtain rfl:q=j:=by omega
       have hule:=HULE.out;have HSM:=jq (QL Aa Ab us.length vs.length ca cb us vs wr H.out.pw (HUF.out.here HBR.out) (HVF.out.here HBR.out) (by omega) (by omega));rw[decide_eq_true (show us.map (·.1)=vs.map (·.1) by rw[HUM.out,HVM.out])] at HSM;rw[hule] at HSM ⊢;clear hule HUF HVF HBR hlt hq;go_wp2_with fail
       refine HSM.out.mono ?_;rintro e w3 ⟨rfl,hb3⟩;have H3:=jq (H.out.here hb3);clear hb3 HSM H;go_wp2_with fail
       refine(HAE.out _ H3).mono ?_;rintro e w4 ⟨rfl,hb4⟩;go_wp2_with fail
       first|go_ret|skip
       exact⟨rfl,(H3.out.here hb4).bl⟩
end
end Go.Proofs.YtbcnkcldlealjaaGreatDoor
