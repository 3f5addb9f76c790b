/- Eow. -/
import Derived.Test.YtokjnjdbnabchaaGreatDoorQGEo37
import Derived.Test.YtokjnjdbnabchaaGreatDoorQGEo38
import Derived.Test.YtokjnjdbnabchaaGreatDoorQGEo43
set_option maxRecDepth 100000
set_option maxHeartbeats 4000000
namespace Go.Proofs.YtokjnjdbnabchaaGreatDoor
open Go.Lib renaming hid→jq
section
open Go.RowKit Go.Shelf
attribute [local go_sem] Oper.semAt_some
attribute [local go_sem ↓] Go.wp_at_zero Go.wp_at_succ
def Zds(w:World)(e:Ending)(w':World):Prop:=e=.returned (.bool true)/\Below w.1.size w w'
theorem Ziw(A:Option Addr)(n c:Nat)(xs:List Fx)(a b:Ky)(w:World)(hp:Env w)(hs:Sl Vk 21 w w.1.size A n xs)(hi:∀x∈xs,FxI w x)(hn:n<=maxLen)(ha:a.length<=maxLen)(hb:b.length<=maxLen)(W:World)(hW:Below w.1.size w W):
 Calls Tryz.prog 10 #[.slice A n c,.slice (some ⟨W.1.size,0,none⟩) 2 2] (W.alloc (.cells #[.string ⟨a.toArray⟩,.string ⟨b.toArray⟩] 9)) fun e w'=>GxP n xs [a,b] e/\Below W.1.size W w':=by
 have hml:maxLen<=9223372036854775807:=by decide
 have h1:Below W.1.size W (W.alloc (.cells #[.string ⟨a.toArray⟩,.string ⟨b.toArray⟩] 9)):=(Below.refl _ _).alloc (Nat.le_refl _) _;have h2:=hW.trans (h1.mono hW.size)
 refine(ZcD A _ n c 2 2 xs [a,b] _ (hp.here h2) ((hs.below h2).more h2.size) (fun x hx=>⟨((ZdC hi x hx).1).here h2,(ZdC hi x hx).2⟩) (by omega) (ZcA W a b) (fun s hs=>by
  rcases List.mem_cons.1 hs with rfl|hs
  ·exact ha
  ·rw[List.mem_singleton.1 hs];exact hb) (by decide)).mono ?_
 rintro e w' ⟨h3,hb'⟩;exact⟨h3,h1.trans (hb'.mono h1.size)⟩
theorem Zas(A:Option Addr)(n c:Nat)(xs:List Fx)(a b:Ky)(d:Int)(w:World)(hp:Env w)(hs:Sl Vk 21 w w.1.size A n xs)(hn:n<=maxLen)(hi:∀x∈xs,FxI w x)(ha:a.length<=maxLen)(hb:b.length<=maxLen):
 Calls Tryz.prog 4 #[.slice A n c,.string ⟨a.toArray⟩,.string ⟨b.toArray⟩,.int .i64 d] w fun e w'=>e=.returned (.bool true)/\Below w.1.size w w':=by
 show Calls _ _ _ _ (Zds w)
 have HPO:=jq (show Zds w=fun e w'=>e=.returned (.bool true)/\Below w.1.size w w' from rfl);generalize Zds w=post at*;have H:=jq (((Kp.start hp).new w.1.size rfl #[.slice A n c] 22).new (w.alloc (.cells #[.slice A n c] 22)).heap.size rfl #[.int .i64 d] 23);rw[show(w.alloc (.cells #[.slice A n c] 22)).heap.size=w.1.size+1 by simp] at H;have HGR:=jq (Ziw A n c xs a b w hp hs hi hn ha hb);have HFX:=jq (fun(hg:∀x∈xs,GrX x)=>Zaj hs hi hg);have HPW:=jq hp;have HAW:=jq (show ∀bs W,Hid (Kp w bs W)->Calls Tryz.prog 11 #[] W fun e w'=>e=.returned (.bool true)/\Below W.1.size W w' from fun bs W h=>ZeJ W h.out.pw);clear hp hs hi ha hb hn;go_enter Tryz.func4,Tryz.ntmps4
 go_upto_region 1 with (fail)
 obtain⟨p0,hp0⟩:∃p0,w.1.size=p0:=⟨_,rfl⟩
 have HP0:=jq hp0;rw[hp0] at H ⊢;generalize (w.alloc (.cells #[.slice A n c] 22)).alloc (.cells #[.int .i64 d] 23)=W2 at*;clear hp0;have k0:=H.out.c 1 0 rfl rfl;have k1:=H.out.c 0 0 rfl rfl;go_wp2_with fail
 refine(HGR.out W2 H.out.bl).mono ?_;rintro e w1 ⟨⟨bz,rfl,hP⟩,hb1⟩;have HP:=jq hP;have H1:=jq (H.out.here hb1);clear hP hb1 H HGR k0 k1
 cases bz with
 |true=>
  go_wp2_with fail
  refine(HAW.out _ _ H1).mono ?_;rintro e w2 ⟨rfl,hb2⟩;go_wp2_with fail
  first|go_ret|skip
  rw[HPO.out];exact⟨rfl,(H1.out.here hb2).bl⟩
 |false=>
 obtain⟨hN,hG,hL⟩:=HP.out rfl
 have HFS:=jq (HFX.out hG);have HN:=jq hN;have h10:(10:Nat)<=maxLen:=by decide
 have HLA:=jq (show a.length<=maxLen/\b.length<=maxLen from⟨Nat.le_trans (hL a (by simp)) h10,Nat.le_trans (hL b (by simp)) h10⟩);clear HP hN hG hL h10 HFX;have HDA:=jq (fun W (hW:Below w.1.size w W)=>Vv A n c xs d a b W (HPW.out.here hW) (HFS.out.here hW) (by have:=HN.out.1;omega) HLA.out.1 HLA.out.2);have HDB:=jq (fun W (hW:Below w.1.size w W)=>Vv A n c xs d b a W (HPW.out.here hW) (HFS.out.here hW) (by have:=HN.out.1;omega) HLA.out.2 HLA.out.1);have HRS:=jq (fun W (hW:Below w.1.size w W)=>Zdq A n c xs d a a W (HPW.out.here hW) (HFS.out.here hW) (by have:=HN.out.1;omega) (by have:=HN.out.2;omega) HLA.out.1 HLA.out.1);have HTH:=jq (fun W (hW:Below w.1.size w W) x y (hv:BlkB W p0 #[.slice A n c] 22) (hd:BlkB W (p0+1) #[.int .i64 d] 23)=>ZhL A n c xs x y d p0 (p0+1) W (HPW.out.here hW) (HFS.out.here hW) (by have:=HN.out.1;omega) hv hd);have HOP:=jq (ZeK d (xs.map (·.1)) a b);generalize xs.map (·.1)=v at*;obtain⟨⟨⟨f1,z1⟩,le⟩,hd1⟩:∃q,JY d v a b=q:=⟨_,rfl⟩
 obtain⟨⟨⟨f2,z2⟩,le2⟩,hd2⟩:∃q,JY d v b a=q:=⟨_,rfl⟩
 obtain⟨q1,q2,q3,q4,q5⟩:=HOP.out
 rw[hd1,hd2] at q1 q2 q3 q5;rw[hd1] at q4
 dsimp only at q1 q2 q3 q4 q5
 subst q1;subst q2
 have HQ3:=jq q3;have HQ4:=jq q4;have HQ5:=jq q5;rw[hd1] at HDA;rw[hd2] at HDB;unfold ZbC Qj S at HDA HDB
 dsimp only at HDA HDB
 clear q3 q4 q5 HOP hd1 hd2 HFS HLA HPW;have k0:=H1.out.c 1 0 rfl rfl;have k1:=H1.out.c 0 0 rfl rfl;go_wp2_with fail
 refine(HDA.out _ H1.out.bl).mono ?_;rintro e w2 ⟨rfl,hb2⟩;have H2:=jq ((H1.out.here hb2).new w2.1.size rfl (YP f1) 28);unfold YP at H2;clear hb2 H1 HDA k0 k1;go_upto_region 4 with (fail)
 generalize w2.alloc _=W3 at*;generalize w2.1.size=b9 at*;have k0:=H2.out.c 2 0 rfl rfl;have k1:=H2.out.c 1 0 rfl rfl;go_wp2_with fail
 refine(HDB.out _ H2.out.bl).mono ?_;rintro e w3 ⟨rfl,hb3⟩;have H3:=jq ((H2.out.here hb3).new w3.1.size rfl (YP f2) 28);unfold YP at H3;clear hb3 H2 HDB k0 k1;go_upto_region 5 with (fail)
 generalize w3.alloc _=W4 at*;generalize w3.1.size=b10 at*
 by_cases h0:le2=0
 case neg=>
  obtain⟨rfl,rfl⟩:=HQ3.out h0
  have hz:(le2 !=0)=true:=by simp[h0]
  dsimp only[Fr.zero] at H3
  have c0:=H3.out.c 0 0 rfl rfl;have c1:=H3.out.c 0 1 rfl rfl;have d0:=H3.out.c 1 0 rfl rfl;have d1:=H3.out.c 1 1 rfl rfl;clear HQ3 HQ4 HQ5 h0;go_wp2_with fail
  refine(HAW.out _ _ H3).mono ?_;rintro e w5 ⟨rfl,hb5⟩;go_wp2_with fail
  first|go_ret|skip
  rw[HPO.out];exact⟨rfl,(H3.out.here hb5).bl⟩
 subst h0;rw[HQ4.out rfl] at HRS;unfold ZbD Qj S at HRS
 dsimp only at HRS
 have HQ:=jq (HQ5.out rfl);have HOF:=jq (fun W (hW:Pow W)=>Jo [49] W hW (by decide));rw[show((val [49]:Int):Rat)=1 by decide+kernel] at HOF;unfold Qh Qj S at HOF;have HMU:=jq (fun(h:Fr.Sz 20000 f1/\Fr.Sz 20000 f2/\f1.rat*f2.rat=1) W (hW:Pow W)=>JH f1 f2 W hW h.1 h.2.1);replace HMU:=jq (show ∀(h:Fr.Sz 20000 f1/\Fr.Sz 20000 f2/\f1.rat*f2.rat=1) W (hW:Pow W),Calls Tryz.prog 23 #[Qj f1,Qj f2] W (Qh (Qd 1) W) from fun h W hW=>by have:=HMU.out h W hW;rwa [h.2.2] at this);unfold Qh Qj S at HMU;generalize Qd 1=one at*;clear HQ3 HQ4 HQ5;have k0:=H3.out.c 3 0 rfl rfl;have k1:=H3.out.c 2 0 rfl rfl;go_wp2_with fail
 refine(HRS.out _ H3.out.bl).mono ?_;rintro e w5 ⟨rfl,hb5⟩;have H5:=jq ((H3.out.here hb5).new w5.1.size rfl (YP one) 28);unfold YP at H5;clear hb5 H3 HRS k0 k1;go_upto_region 10 with (fail)
 generalize w5.alloc _=W6 at*;generalize w5.1.size=b11 at*;have c0:=H5.out.c 0 0 rfl rfl;have c1:=H5.out.c 0 1 rfl rfl;have hS:Hid (∀X,Bz W6 X->X.cell? ⟨b11,0,none⟩=some (.string ⟨one.n.toArray⟩)/\X.cell? ⟨b11,1,none⟩=some (.string ⟨one.d.toArray⟩)):=jq fun X hX=>have h:=H5.out.here hX;⟨h.c 0 0 rfl rfl,h.c 0 1 rfl rfl⟩
 have hP:Hid (∀X,Bz W6 X->Pow X):=jq fun X hX=>(H5.out.here hX).po
 have hz0:Bz W6 W6:=Bz.refl W6
 go_region_held3 (fun X=>X.cell? ⟨b11,0,none⟩=some (.string ⟨one.n.toArray⟩)/\X.cell? ⟨b11,1,none⟩=some (.string ⟨one.d.toArray⟩)) (first|(exact hS.out _ (by repeat' (first|assumption|exact Bz.refl _|refine Bz.drew ?_|refine Bz.alloc ?_ _|refine Bz.set ?_ (by first|assumption|exact Nat.le_refl _|exact Bz.size (by assumption)) _ _)))|go_keep)
  (first|(go_at_call 19;refine(HOF.out _ (hP.out _ (by repeat' (first|assumption|exact Bz.refl _|refine Bz.drew ?_|refine Bz.alloc ?_ _|refine Bz.set ?_ (by first|assumption|exact Nat.le_refl _|exact Bz.size (by assumption)) _ _)))).mono ?_;rintro e w7 ⟨rfl,hb7⟩;have hz1:Bz W6 w7:=Bz.call (by repeat' (first|assumption|exact Bz.refl _|refine Bz.drew ?_|refine Bz.alloc ?_ _|refine Bz.set ?_ (by first|assumption|exact Nat.le_refl _|exact Bz.size (by assumption)) _ _)) hb7))
 all_goals
  have H7:=jq (H5.out.here (show Below W6.1.size W6 w7 from hz1));clear hz0 hz1 hb7 hS hP c0 c1 H5
  cases z2 with
  |false=>
   clear HQ HTH HMU HOF;go_wp2_with fail
   refine(HAW.out _ _ H7).mono ?_;rintro e w8 ⟨rfl,hb8⟩;go_wp2_with fail
   first|go_ret|skip
   rw[HPO.out];exact⟨rfl,(H7.out.here hb8).bl⟩
  |true=>
   replace HQ:=jq (HQ.out rfl);obtain⟨t1,ht1⟩:∃t,thV d v a b=t:=⟨_,rfl⟩
   obtain⟨t2,ht2⟩:∃t,thV d v b a=t:=⟨_,rfl⟩
   have HA1:=jq (fun W (hW:Below w.1.size w W)=>HTH.out W hW a b);have HA2:=jq (fun W (hW:Below w.1.size w W)=>HTH.out W hW b a);rw[ht1] at HQ HA1;rw[ht2] at HQ HA2;clear ht1 ht2 HTH;go_wp2_with fail
   refine(HA1.out w7 H7.out.bl (H7.out.at_ 4 rfl) (H7.out.at_ 3 rfl)).mono ?_;rintro e w8 ⟨rfl,hb8⟩;have H8:=jq (H7.out.here hb8);clear hb8 H7 HA1
   cases t1 with
   |false=>
    replace HQ:=jq (HQ.out (by simp));replace HMU:=jq (HMU.out HQ.out);have c0:=H8.out.c 2 0 rfl rfl;have c1:=H8.out.c 2 1 rfl rfl;have d0:=H8.out.c 1 0 rfl rfl;have d1:=H8.out.c 1 1 rfl rfl;go_wp2_with fail
    refine(HMU.out _ H8.out.po).mono ?_;rintro e w10 ⟨rfl,hb10⟩;have H10:=jq (H8.out.here hb10);clear hb10 HMU;go_wp2_with fail
    refine(HOF.out _ H10.out.po).mono ?_;rintro e w11 ⟨rfl,hb11⟩;have H11:=jq (H10.out.here hb11);clear hb11 HOF;go_wp2_with fail
    refine(HAW.out _ _ H11).mono ?_;rintro e w12 ⟨rfl,hb12⟩;go_wp2_with fail
    first|go_ret|skip
    rw[HPO.out];exact⟨rfl,(H11.out.here hb12).bl⟩
   |true=>
    go_wp2_with fail
    refine(HA2.out w8 H8.out.bl (H8.out.at_ 4 rfl) (H8.out.at_ 3 rfl)).mono ?_;rintro e w9 ⟨rfl,hb9⟩;have H9:=jq (H8.out.here hb9);clear hb9 H8 HA2
    cases t2 with
    |true=>
     clear HQ HMU HOF;go_wp2_with fail
     refine(HAW.out _ _ H9).mono ?_;rintro e w12 ⟨rfl,hb12⟩;go_wp2_with fail
     first|go_ret|skip
     rw[HPO.out];exact⟨rfl,(H9.out.here hb12).bl⟩
    |false=>
     replace HQ:=jq (HQ.out (by simp));replace HMU:=jq (HMU.out HQ.out);have c0:=H9.out.c 2 0 rfl rfl;have c1:=H9.out.c 2 1 rfl rfl;have d0:=H9.out.c 1 0 rfl rfl;have d1:=H9.out.c 1 1 rfl rfl;go_wp2_with fail
     refine(HMU.out _ H9.out.po).mono ?_;rintro e w10 ⟨rfl,hb10⟩;have H10:=jq (H9.out.here hb10);clear hb10 HMU;go_wp2_with fail
     refine(HOF.out _ H10.out.po).mono ?_;rintro e w11 ⟨rfl,hb11⟩;have H11:=jq (H10.out.here hb11);clear hb11 HOF;go_wp2_with fail
     refine(HAW.out _ _ H11).mono ?_;rintro e w12 ⟨rfl,hb12⟩;go_wp2_with fail
     first|go_ret|skip
     rw[HPO.out];exact⟨rfl,(H11.out.here hb12).bl⟩
end
end Go.Proofs.YtokjnjdbnabchaaGreatDoor
