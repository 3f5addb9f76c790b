/- Elw, Epw, Etw. -/
import Derived.Test.YtokjnjdbnabchaaGreatDoorQGEp42
import Derived.Test.YtokjnjdbnabchaaGreatDoorQGEp36
set_option maxRecDepth 100000
set_option maxHeartbeats 4000000
namespace Go.Proofs.YtokjnjdbnabchaaGreatDoor
open Go.Lib renaming hid→jq
open Go.RowKit Go.Shelf
section
def Jd(w:World)(e:Ending)(w':World):Prop:=e=.returned (.bool true)/\Below w.1.size w w'
theorem ZgK(A:Option Addr)(n c:Nat)(xs:List Fx)(a b:Ky)(w:World)(hp:Env w)(hs:Sl YY 21 w w.1.size A n xs)(hi:∀x∈xs,FxI w x)(hn:n<=maxLen)(ha:a.length<=maxLen)(hb:b.length<=maxLen)(W:World)(hW:Below w.1.size w W):
 Calls Tryz.prog 10 #[.slice A n c,.slice (some ⟨W.1.size,0,none⟩) 2 2] (W.alloc (.cells #[.string ⟨a.toArray⟩,.string ⟨b.toArray⟩] 9)) fun e w'=>GxP n xs [a,b] e/\Below W.1.size W w':=by
 have hml:maxLen<=9223372036854775807:=by decide
 have h1:Below W.1.size W (W.alloc (.cells #[.string ⟨a.toArray⟩,.string ⟨b.toArray⟩] 9)):=(Below.refl _ _).alloc (Nat.le_refl _) _;have h2:=hW.trans (h1.mono hW.size)
 refine(ZcV A _ n c 2 2 xs [a,b] _ (hp.here h2) ((hs.below h2).more h2.size) (fun x hx=>⟨((ZdR hi x hx).1).here h2,(ZdR hi x hx).2⟩) (by omega) (ZcU W a b) (fun s hs=>by
  rcases List.mem_cons.1 hs with rfl|hs
  ·exact ha
  ·rw[List.mem_singleton.1 hs];exact hb) (by decide)).mono ?_
 rintro e w' ⟨h3,hb'⟩;exact⟨h3,h1.trans (hb'.mono h1.size)⟩
end
section
attribute [local go_sem] Oper.semAt_some
attribute [local go_sem ↓] Go.wp_at_zero Go.wp_at_succ
theorem ZdG(A:Option Addr)(n c:Nat)(xs:List Fx)(a b:Ky)(d:Int)(w:World)(hp:Env w)(hs:Sl YY 21 w w.1.size A n xs)(hn:n<=maxLen)(hi:∀x∈xs,FxI w x)(ha:a.length<=maxLen)(hb:b.length<=maxLen):
 Calls Tryz.prog 5 #[.slice A n c,.string ⟨a.toArray⟩,.string ⟨b.toArray⟩,.int .i64 d] w fun e w'=>e=.returned (.bool true)/\Below w.1.size w w':=by
 show Calls _ _ _ _ (Jd w)
 have HPO:=jq (show Jd w=fun e w'=>e=.returned (.bool true)/\Below w.1.size w w' from rfl);generalize Jd w=post at*;have H:=jq (Kp.start hp);have HGR:=jq (ZgK A n c xs a b w hp hs hi hn ha hb);have HFX:=jq (fun(hg:∀x∈xs,GrX x)=>Vg hs hi hg);have HPW:=jq hp;have HXL:=jq (show n=xs.length from hs.1);have HAW:=jq (fun W (hW:Env W)=>Zbi W hW);clear hp hs hi ha hb hn;go_enter Tryz.func5,Tryz.ntmps5
 go_wp2_with fail
 refine(HGR.out w H.out.bl).mono ?_;rintro e w1 ⟨⟨bz,rfl,hP⟩,hb1⟩;have HP:=jq hP;have H1:=jq (H.out.here hb1);clear hP hb1 H HGR
 cases bz with
 |true=>
  go_wp2_with fail
  refine(HAW.out _ H1.out.pw).mono ?_;rintro e w2 ⟨rfl,hb2⟩;go_wp2_with fail
  first|go_ret|skip
  rw[HPO.out];exact⟨rfl,(H1.out.here hb2).bl⟩
 |false=>
 obtain⟨hN,hG,hL⟩:=HP.out rfl
 have HFS:=jq (HFX.out hG);have HN:=jq hN;have h10:(10:Nat)<=maxLen:=by decide
 have HLA:=jq (show a.length<=maxLen/\b.length<=maxLen from⟨Nat.le_trans (hL a (by simp)) h10,Nat.le_trans (hL b (by simp)) h10⟩);clear HP hN hG hL h10 HFX;have HPT:=jq (fun W (hW:Below w.1.size w W)=>Jq A n c xs d a b W (HPW.out.here hW) (HFS.out.here hW) (by have:=HN.out.1;omega) HLA.out.1 HLA.out.2);have HRV:=jq (fun W (hW:Below w.1.size w W)=>Vr A n c xs d a b W (HPW.out.here hW) (HFS.out.here hW) (by have:=HN.out.1;omega) (by have:=HN.out.2;omega) HLA.out.1 HLA.out.2);have HDV:=jq (fun(x y:Ky) (hx:x.length<=maxLen) (hy:y.length<=maxLen) W (hW:Below w.1.size w W)=>Zb2 A n c xs d x y W (HPW.out.here hW) (HFS.out.here hW) (by have:=HN.out.1;omega) hx hy);have HVL:=jq (show(xs.map (·.1)).length=n by rw[List.length_map,HXL.out]);generalize xs.map (·.1)=v at*;have HPL:=jq (ZcW d v a b);obtain⟨⟨l,le⟩,hpa⟩:∃q,paR d v a b=q:=⟨_,rfl⟩
 obtain⟨⟨fr,le2⟩,hra⟩:∃q,raR d v a b=q:=⟨_,rfl⟩
 obtain⟨q1,q2,q3⟩:=HPL.out
 rw[hpa,hra] at q1 q2 q3;rw[hpa] at HPT;rw[hra] at HRV
 dsimp only at q1 q2 q3
 subst q1;unfold PaPost at HPT;unfold Zar Qj S at HRV
 dsimp only at HPT HRV
 have HQ2:=jq q2;have HQ3:=jq q3;clear q2 q3 hpa hra HPL HFS HPW;obtain⟨ll,hll⟩:∃ll,l.length=ll:=⟨_,rfl⟩
 have HLL:=jq hll;rw[hll] at HPT;clear hll;go_wp2_with fail
 refine(HPT.out _ H1.out.bl).mono ?_;rintro e w2 ⟨A2,c2,rfl,hs2,hb2⟩;have H2:=jq (H1.out.here hb2);have HS2:=jq hs2;clear hs2 hb2 H1 HPT;go_wp2_with fail
 refine(HRV.out _ H2.out.bl).mono ?_;rintro e w3 ⟨rfl,hb3⟩;have LB:=jq (fun W (hW:Below w2.1.size w2 W)=>H2.out.bl.trans (hW.mono H2.out.bl.size));have H3:=jq (((Kp.start H2.out.pw).here hb3).new w3.1.size rfl (XG fr) 28);unfold XG at H3;clear hb3 HRV H2;go_upto_region 5 with (fail)
 generalize w3.alloc _=W3 at*;generalize w3.1.size=b3 at*
 by_cases h0:le2=0
 case neg=>
  obtain⟨rfl,rfl,hdi⟩:=HQ2.out h0
  have hz:(le2 !=0)=true:=by simp[h0]
  have HLZ:=HLL.out;obtain rfl:ll=0:=HLZ.symm;obtain⟨⟨⟨f,z⟩,ed⟩,hd⟩:∃q,diR d v a b=q:=⟨_,rfl⟩
  have HD:=jq (fun W (hW:Below w.1.size w W)=>HDV.out a b HLA.out.1 HLA.out.2 W hW);rw[hd] at HD hdi
  dsimp only at hdi
  subst hdi;unfold Zb0 Qj S at HD
  dsimp only[Fr.zero] at HD H3
  clear HQ2 HQ3 h0 hd HDV HLZ HS2;go_wp2_with fail
  refine(HD.out _ (LB.out _ H3.out.bl)).mono ?_;rintro e w5 ⟨rfl,hb5⟩;have H5:=jq ((H3.out.here hb5).new w5.1.size rfl (XG f) 28);unfold XG at H5;clear hb5 H3 HD;go_upto_region 9 with (fail)
  generalize w5.alloc _=W5 at*;generalize w5.1.size=b5 at*;have c0:=H5.out.c 1 0 rfl rfl;have c1:=H5.out.c 1 1 rfl rfl;go_wp2_with fail
  refine(HAW.out _ H5.out.pw).mono ?_;rintro e w6 ⟨rfl,hb6⟩;go_wp2_with fail
  first|go_ret|skip
  rw[HPO.out];exact⟨rfl,LB.out _ (H5.out.here hb6).bl⟩
 subst h0;have HQ:=jq (HQ3.out rfl);have hlpos:0<ll:=by rw[<-HLL.out];exact HQ.out.pos
 obtain⟨bl,ol,rfl,hbl,hcell⟩:=HS2.out.2 hlpos
 have HCE:=jq (show ∀W,Below w2.1.size w2 W->∀(i:Nat) (s:Ky),l[i]?=some s->W.cell? ⟨bl,ol+i,none⟩=some (.string ⟨s.toArray⟩) from fun W hW i s hs=>by
  have h:=(Sl.below HS2.out hW).2 hlpos;obtain⟨bl',ol',e,_,hc⟩:=h
  obtain⟨rfl,rfl,_⟩:bl=bl'/\ol=ol'/\True:=by
   have e':=Option.some.inj e;exact⟨congrArg Addr.block e',congrArg Addr.off e',trivial⟩
  have h:=hc i s hs 0 _ rfl
  rwa [Nat.mul_one,Nat.add_zero] at h)
 have HPOS:=jq hlpos;clear hcell hbl HQ2 HQ3 HS2;obtain⟨P,hPd⟩:∃P:Nat->Fr,∀i,P i=Qd (JH (QP d v) l i):=⟨fun i=>Qd (JH (QP d v) l i),fun _=>rfl⟩
 have HFR:=jq (show fr=P (ll-1) by rw[hPd,<-HLL.out];exact HQ.out.rate);have HP0:=jq (show P 0=Qd 1 by rw[hPd];rfl);have HNN:=jq (show n<=12\/1000<n from HN.out.2);have HLM:=jq (show ll<=3000 by have h1:=HQ.out.len;have h2:=HVL.out;have h3:=HN.out.1;have h4:=HLL.out;omega)
 have HST:=jq (show ∀i k x y,i<k->l[i]?=some x->l[k]?=some y->∃f:Fr,(∀W,Below w.1.size w W->Calls Tryz.prog 12 #[.slice A n c,.string ⟨x.toArray⟩,.string ⟨y.toArray⟩,.int .i64 d] W fun e w'=>e=.returned (.tuple #[.agg #[.string ⟨f.n.toArray⟩,.string ⟨f.d.toArray⟩],.bool (decide (k=i+1)),.int .i64 0])/\Below W.1.size W w')/\
  (k=i+1->∀W,Pow W->Calls Tryz.prog 23 #[.agg #[.string ⟨(P i).n.toArray⟩,.string ⟨(P i).d.toArray⟩],.agg #[.string ⟨f.n.toArray⟩,.string ⟨f.d.toArray⟩]] W fun e w'=>e=.returned (.agg #[.string ⟨(P (i+1)).n.toArray⟩,.string ⟨(P (i+1)).d.toArray⟩])/\Below W.1.size W w') from fun i k x y hik hx hy=>by
  obtain⟨f,h1,h2,h3⟩:=HQ.out.pair i k x y hik hx hy
  have h10:(10:Nat)<=maxLen:=by decide
  refine⟨f,fun W hW=> ?_,fun e W hW=> ?_⟩
  ·have h:=HDV.out x y (Nat.le_trans (HQ.out.code x (List.mem_of_getElem? hx)) h10) (Nat.le_trans (HQ.out.code y (List.mem_of_getElem? hy)) h10) W hW;rw[h1] at h;exact h
  ·have hil:i<=l.length:=by have:=(List.getElem?_eq_some_iff.1 hx).1;omega
   have hsm:v.length<=100:=by have h4:=HQ.out.small;have h5:=HVL.out;have h6:=HNN.out;omega
   have h:=JS (P i) f W hW (by rw[hPd];exact HQ.out.sz i hil hsm) h2;rw[hPd i,QU,h3 e,<-hPd (i+1),<-hPd i] at h;exact h)
 have HHD:=jq HQ.out.head;have HLS:=jq (show l[ll-1]?=some b by rw[<-HLL.out];exact HQ.out.last);have HOF:=jq (fun W (hW:Pow W)=>JC [49] W hW (by decide));rw[show((val [49]:Int):Rat)=1 by decide+kernel,<-HP0.out] at HOF;unfold Qi Qj S at HOF;rw[HFR.out] at H3;have e0:=HCE.out W3 H3.out.bl 0 a HHD.out;have e1:=HCE.out W3 H3.out.bl (ll-1) b HLS.out;rw[Nat.add_zero] at e0;have z0:((ll:Int)==0)=false:=by simp;omega
 have z1:IntKind.i64.wrap ((ll:Int)-1)=((ll-1:Nat):Int):=by
  rw[show(ll:Int)-1=((ll-1:Nat):Int) by omega];exact IntWalk.i64_in _ (by have:=HLM.out;omega)
 have z2:(0:Int)<=((ll-1:Nat):Int):=by omega
 have z3:((ll-1:Nat):Int)<(ll:Int):=by omega
 have z4:(0:Int)<(ll:Int):=by omega
 clear hPd HQ HDV HHD HLS;go_wp2_with fail
 refine(HOF.out _ H3.out.po).mono ?_;rintro e w5 ⟨rfl,hb5⟩;have H5:=jq ((H3.out.here hb5).new w5.1.size rfl (XG (P 0)) 28);unfold XG at H5;clear hb5 H3 HOF e0 e1 z0 z1 z2 z3 z4 hlpos;go_upto_region 13 with (fail)
 generalize w5.alloc _=W5 at*;generalize w5.1.size=bp at*;go_wp2_with fail
 go_loopw [17,18,19,20,21,96] (fun _ _ _ _ _ i wr=>∃k:Nat,k<=ll/\i=.int .i64 k/\Hid (Kp w2 [(bp,XG (P (min k (ll-1))),28),(b3,XG (P (ll-1)),28)] wr)) (fun _ _ _ _ _ i _=>ll-(intOf i).toNat)
 case atStart=>exact⟨0,Nat.zero_le _,rfl,(show Kp _ _ _ by rw[Nat.zero_min];exact H5.out)⟩
 case round=>
  clear H5;obtain⟨k,hk,rfl,H⟩:=hrel
  by_cases hlt:k<ll
  ·have i1:(k:Int)<(ll:Int):=by omega
   have i2:IntKind.i64.wrap ((k:Int)+1)=(k:Int)+1:=IntWalk.i64_in _ (by have:=HLM.out;omega);have HK:=jq hlt;rw[show min k (ll-1)=k by omega] at H;clear hlt;go_wp2_with fail
   go_loopw [18,19,20,21] (fun kk _ _ _ wq=>∃j:Nat,k+1<=j/\j<=ll/\kk=.int .i64 j/\Hid (Kp w2 [(bp,XG (if j=k+1 then P k else P (k+1)),28),(b3,XG (P (ll-1)),28)] wq)) (fun kk _ _ _ _=>ll-(intOf kk).toNat)
   case atStart=>exact⟨k+1,Nat.le_refl _,HK.out,by go_num,(show Kp _ _ _ by rw[if_pos rfl];exact H.out)⟩
   case round=>
    clear H;obtain⟨j,hj1,hj2,rfl,H⟩:=hrel
    by_cases hjl:j<ll
    ·have HJ:=jq (show k<j/\j<ll by omega);obtain⟨x,hx⟩:∃x,l[k]?=some x:=⟨_,List.getElem?_eq_getElem (by have:=HLL.out;omega)⟩
     obtain⟨y,hy⟩:∃y,l[j]?=some y:=⟨_,List.getElem?_eq_getElem (by have:=HLL.out;omega)⟩
     obtain⟨f,hf1,hf2⟩:=HST.out k j x y HJ.out.1 hx hy
     have HF1:=jq hf1;have HF2:=jq hf2;have HPA:=jq ((H.out.new wr.1.size rfl #[.string ⟨#[]⟩,.string ⟨#[]⟩] 28).drew);have HSX:=jq (show ∀X bs,Kp w2 bs X->X.cell? ⟨bl,ol+k,none⟩=some (.string ⟨x.toArray⟩)/\X.cell? ⟨bl,ol+j,none⟩=some (.string ⟨y.toArray⟩) from fun X bs h=>⟨HCE.out _ h.bl k x hx,HCE.out _ h.bl j y hy⟩);have s0:=HSX.out _ _ H.out.drew;have s0a:=HSX.out _ _ HPA.out;obtain⟨d1,d2⟩:=And.intro (HCE.out _ H.out.bl k x hx) (HCE.out _ H.out.bl j y hy)
     have j1:(0:Int)<=(k:Int):=by omega
     have j2:(k:Int)<(ll:Int):=by omega
     have j3:(0:Int)<=(j:Int):=by omega
     have j4:(j:Int)<(ll:Int):=by omega
     clear hf1 hf2 hx hy hj1 hj2 hjl;go_upto_region 19 with (fail)
     go_cut [19,20,21] (fun p z g wc=>z=.bool (decide (j=k+1))/\g=.int .i64 0/\∃b7,p=.pointer (some ⟨b7,0,none⟩)/\Hid (Kp w2 [(b7,#[.string ⟨f.n.toArray⟩,.string ⟨f.d.toArray⟩],28),(bp,XG (if j=k+1 then P k else P (k+1)),28),(b3,XG (P (ll-1)),28)] wc))
     case first=>
      go_region_held3 (fun X=>X.cell? ⟨bl,ol+k,none⟩=some (.string ⟨x.toArray⟩)/\X.cell? ⟨bl,ol+j,none⟩=some (.string ⟨y.toArray⟩))
       (first
         |with_reducible exact s4
         |with_reducible exact s3
         |with_reducible exact s2a
         |with_reducible exact s2
         |with_reducible exact s0a
         |with_reducible exact s0
         |go_keep)
       (first
         |(go_at_call 12;first
            |(refine(HF1.out _ (LB.out _ H.out.drew.bl)).mono ?_;rintro e y1 ⟨rfl,hy⟩
              have g2:=H.out.drew.here hy;have s2:=HSX.out _ _ g2;have s2a:=HSX.out _ _ (g2.new y1.1.size rfl #[.string ⟨#[]⟩,.string ⟨#[]⟩] 28);have s4:=HSX.out _ _ (g2.new y1.1.size rfl #[.string ⟨f.n.toArray⟩,.string ⟨f.d.toArray⟩] 28))
            |(refine(HF1.out _ (LB.out _ HPA.out.bl)).mono ?_;rintro e y1 ⟨rfl,hy⟩
              have g2:=HPA.out.here hy;have s2:=HSX.out _ _ g2;have n0:=g2.c 0 0 rfl rfl;have n1:=g2.c 0 1 rfl rfl;have v0:=g2.f 0 0 rfl;have v1:=g2.f 0 1 rfl;have g3:=g2.set 0 0 rfl (.string ⟨f.n.toArray⟩);have s3:=HSX.out _ _ g3;have g4:=g3.set 0 1 rfl (.string ⟨f.d.toArray⟩);have s4:=HSX.out _ _ g4)))
      all_goals
       go_wp2_with fail
       go_meet
       first
        |exact⟨rfl,rfl,_,rfl,g4⟩
        |exact⟨rfl,rfl,_,rfl,g2.new _ rfl _ _⟩
     case rest=>
     obtain⟨rfl,rfl,b7,rfl,H7⟩:=hcut
     clear H HPA s0 s0a d1 d2 HF1 HSX;have m2:IntKind.i64.wrap ((j:Int)+1)=(j:Int)+1:=IntWalk.i64_in _ (by have:=HLM.out;have:=HJ.out;omega)
     by_cases hjk:j=k+1
     ·subst hjk;rw[if_pos rfl] at H7;unfold XG at H7;replace HF2:=jq (HF2.out rfl);have m1:decide (k+1=k+1)=true:=by simp
      rw[m1];have m3:((k+1:Nat):Int)=(k:Int)+1:=by omega
      have m4:(((k+1:Nat):Int)==(k:Int)+1)=true:=by simp
      have c0:=H7.out.c 1 0 rfl rfl;have c1:=H7.out.c 1 1 rfl rfl;have d0:=H7.out.c 0 0 rfl rfl;have d1:=H7.out.c 0 1 rfl rfl;have f0:=H7.out.f 1 0 rfl;have f1:=H7.out.f 1 1 rfl;have m5:IntKind.i64.wrap ((k:Int)+1+1)=(k:Int)+1+1:=by have h:=m2;rw[m3] at h;exact h
      go_wp2_with fail
      refine(HF2.out _ H7.out.po).mono ?_;rintro e w8 ⟨rfl,hb8⟩;have H8:=jq (H7.out.here hb8);have g0:=H8.out.f 1 0 rfl;have g1:=H8.out.f 1 1 rfl;have u0:=H8.out.c 1 0 rfl rfl;have u1:=H8.out.c 1 1 rfl rfl;clear hb8 c0 c1 d0 d1 f0 f1 H7;go_wp2_with fail
      go_roundw
      case rel=>exact⟨k+1+1,by omega,by have:=HJ.out;omega,by go_num,(show Kp _ _ _ by rw[if_neg (by omega)];exact((H8.out.set 1 0 rfl _).set 1 1 rfl _).tail)⟩
      case measure=>simp[intOf];have:=HJ.out;omega
     ·rw[if_neg hjk] at H7;have m1:decide (j=k+1)=false:=decide_eq_false hjk;rw[m1];have m4:((j:Int)==(k:Int)+1)=false:=by simp;omega
      go_wp2_with fail
      have hj9:=HJ.out
      go_roundw
      case rel=>exact⟨j+1,by omega,by omega,by go_num,(show Kp _ _ _ by rw[if_neg (by omega)];exact H7.out.tail)⟩
      case measure=>simp[intOf];have:=HJ.out;omega
    ·obtain rfl:j=ll:=by omega
     have j9:¬(j:Int)<(j:Int):=by omega
     go_wp2_with fail
     go_roundw
     case rel=>
      refine⟨k+1,HK.out,by go_num,(show Kp _ _ _ from ?_)⟩
      by_cases e:j=k+1
      ·rw[if_pos e] at H;rw[show min (k+1) (j-1)=k by omega];exact H.out
      ·rw[if_neg e] at H;rw[show min (k+1) (j-1)=k+1 by have:=HK.out;omega];exact H.out
     case measure=>simp[intOf];have:=HK.out;omega
  ·obtain rfl:k=ll:=by omega
   rw[show min k (k-1)=k-1 by omega] at H;unfold XG at H;generalize P (k-1)=pr at*;have c0:=H.out.c 0 0 rfl rfl;have c1:=H.out.c 0 1 rfl rfl;have d0:=H.out.c 1 0 rfl rfl;have d1:=H.out.c 1 1 rfl rfl;go_wp2_with fail
   refine(HAW.out _ H.out.pw).mono ?_;rintro e w9 ⟨rfl,hb9⟩;go_wp2_with fail
   first|go_ret|skip
   rw[HPO.out];exact⟨rfl,LB.out _ (H.out.here hb9).bl⟩
end
section
attribute [local go_sem] Oper.semAt_some
attribute [local go_sem ↓] Go.wp_at_zero Go.wp_at_succ
theorem ZeY(A:Option Addr)(n c:Nat)(xs:List Fx)(a b:Ky)(d:Int)(w:World)(hp:Env w)(hs:Sl YY 21 w w.1.size A n xs)(hn:n<=maxLen)(hi:∀x∈xs,FxI w x)(ha:a.length<=maxLen)(hb:b.length<=maxLen):
 Calls Tryz.prog 6 #[.slice A n c,.string ⟨a.toArray⟩,.string ⟨b.toArray⟩,.int .i64 d] w fun e w'=>e=.returned (.bool true)/\Below w.1.size w w':=by
 show Calls _ _ _ _ (Jd w)
 have HPO:=jq (show Jd w=fun e w'=>e=.returned (.bool true)/\Below w.1.size w w' from rfl);generalize Jd w=post at*;have H:=jq (Kp.start hp);have HGR:=jq (ZgK A n c xs a b w hp hs hi hn ha hb);have HFX:=jq (fun(hg:∀x∈xs,GrX x)=>Vg hs hi hg);have HPW:=jq hp;have HXL:=jq (show n=xs.length from hs.1);have HAW:=jq (show ∀bs W,Hid (Kp w bs W)->Calls Tryz.prog 11 #[] W fun e w'=>e=.returned (.bool true)/\Below W.1.size W w' from fun bs W h=>Zbi W h.out.pw);clear hp hs hi ha hb hn;go_enter Tryz.func6,Tryz.ntmps6
 go_wp2_with fail
 refine(HGR.out w H.out.bl).mono ?_;rintro e w1 ⟨⟨bz,rfl,hP⟩,hb1⟩;have HP:=jq hP;have H1:=jq (H.out.here hb1);clear hP hb1 H HGR
 cases bz with
 |true=>
  go_wp2_with fail
  refine(HAW.out _ _ H1).mono ?_;rintro e w2 ⟨rfl,hb2⟩;go_wp2_with fail
  first|go_ret|skip
  rw[HPO.out];exact⟨rfl,(H1.out.here hb2).bl⟩
 |false=>
 obtain⟨hN,hG,hL⟩:=HP.out rfl
 have HFS:=jq (HFX.out hG);have HN:=jq hN;have h10:(10:Nat)<=maxLen:=by decide
 have HLA:=jq (show a.length<=maxLen/\b.length<=maxLen from⟨Nat.le_trans (hL a (by simp)) h10,Nat.le_trans (hL b (by simp)) h10⟩);clear HP hN hG hL h10 HFX;have HUT:=jq (fun W (hW:Below w.1.size w W)=>ZcZ A n c xs d W (HPW.out.here hW) (HFS.out.here hW) (by have:=HN.out.1;omega));have HRV:=jq (fun W (hW:Below w.1.size w W)=>Vr A n c xs d a b W (HPW.out.here hW) (HFS.out.here hW) (by have:=HN.out.1;omega) (by have:=HN.out.2;omega) HLA.out.1 HLA.out.2);have HCV:=jq (fun W (hW:Below w.1.size w W)=>Zas A n c xs d W (HPW.out.here hW) (HFS.out.here hW) (by have:=HN.out.1;omega));have HT:=jq (fun h=>ZeX (d:=d) (v:=xs.map (·.1)) a b h);have HVL:=jq (show(xs.map (·.1)).length=n by rw[List.length_map,HXL.out]);generalize xs.map (·.1)=v at*;obtain⟨⟨u,le⟩,hu⟩:∃q,XF v d=q:=⟨_,rfl⟩
 rw[hu] at HUT HT
 dsimp only at HUT HT
 unfold FsPost at HUT;clear hu HFS;go_wp2_with fail
 refine(HUT.out _ H1.out.bl).mono ?_;rintro e w2 ⟨A2,c2,ys,rfl,hf2,hy2,_,hb2⟩;have H2:=jq (H1.out.here hb2);have HF2:=jq hf2;have HY2:=jq hy2;clear hf2 hy2 hb2 H1 HUT
 by_cases h0:le=0
 case neg=>
  have hz:(le !=0)=true:=by simp[h0]
  clear h0;go_wp2_with fail
  refine(HAW.out _ _ H2).mono ?_;rintro e w3 ⟨rfl,hb3⟩;go_wp2_with fail
  first|go_ret|skip
  rw[HPO.out];exact⟨rfl,(H2.out.here hb3).bl⟩
 subst h0;obtain⟨q1,q2,q3,q4,q5⟩:=HT.out rfl
 have hyl:ys.length=u.length:=by rw[<-HY2.out,List.length_map]
 have HNN:=jq (show n<=12/\ys.length<=12 by have:=HN.out;have:=HVL.out;omega);have HRU:=jq (fun W (hW:Below w2.1.size w2 W)=>Vr A2 ys.length c2 ys d a b W (H2.out.pw.here hW) (HF2.out.here hW) (by have:=HNN.out;omega) (by have:=HNN.out;omega) HLA.out.1 HLA.out.2);have HCU:=jq (fun W (hW:Below w2.1.size w2 W)=>Zas A2 ys.length c2 ys d W (H2.out.pw.here hW) (HF2.out.here hW) (by have:=HNN.out;omega));rw[HY2.out,q1] at HRU;rw[HY2.out,q2] at HCU;have HCL:=jq q5;obtain⟨⟨fr,er⟩,hra⟩:∃q,raR d v a b=q:=⟨_,rfl⟩
 obtain⟨⟨cl,ec⟩,hcu⟩:∃q,cuR d v=q:=⟨_,rfl⟩
 rw[hra] at HRV HRU;rw[hcu] at HCV HCU HCL;unfold Zar Qj S at HRV HRU;unfold PaPost at HCV HCU
 dsimp only at HRV HRU HCV HCU HCL
 have HB2:=jq (Below.refl w2.1.size w2);clear q1 q2 q3 q4 q5 hra hcu hyl HT HY2 HF2 HPW HLA;go_wp2_with fail
 refine(HRV.out _ H2.out.bl).mono ?_;rintro e w3 ⟨rfl,hb3⟩;have H3:=jq ((H2.out.here hb3).new w3.1.size rfl (XG fr) 28);have HB3:=jq ((HB2.out.trans hb3).alloc hb3.size (.cells (XG fr) 28));unfold XG at H3 HB3;clear hb3 H2 HB2 HRV;go_upto_region 7 with (fail)
 generalize w3.alloc _=W3 at*;generalize w3.1.size=b3 at*;go_wp2_with fail
 refine(HRU.out _ HB3.out).mono ?_;rintro e w4 ⟨rfl,hb4⟩;have H4:=jq ((H3.out.here hb4).new w4.1.size rfl (XG fr) 28);have HB4:=jq ((HB3.out.trans (hb4.mono HB3.out.size)).alloc (Nat.le_trans HB3.out.size hb4.size) (.cells (XG fr) 28));unfold XG at H4 HB4;clear hb4 H3 HB3 HRU;go_upto_region 8 with (fail)
 generalize w4.alloc _=W4 at*;generalize w4.1.size=b4 at*;go_wp2_with fail
 refine(HCV.out _ H4.out.bl).mono ?_;rintro e w5 ⟨A5,c5,rfl,hs5,hb5⟩;have H5:=jq (H4.out.here hb5);have HB5:=jq (HB4.out.trans (hb5.mono HB4.out.size));have HS5:=jq hs5;clear hb5 hs5 H4 HB4 HCV;go_wp2_with fail
 refine(HCU.out _ HB5.out).mono ?_;rintro e w6 ⟨A6,c6,rfl,hs6,hb6⟩;have H6:=jq (H5.out.here hb6);have HEQ:=jq (Jr A5 A6 cl.length c5 c6 cl w6 (HS5.out.here hb6) hs6 (by have:=HCL.out;omega));clear hb6 hs6 H5 HB5 HCU HS5;have c0:=H6.out.c 1 0 rfl rfl;have c1:=H6.out.c 1 1 rfl rfl;have d0:=H6.out.c 0 0 rfl rfl;have d1:=H6.out.c 0 1 rfl rfl;go_wp2_with fail
 refine HEQ.out.mono ?_;rintro e w7 ⟨rfl,hb7⟩;have H7:=jq (H6.out.here hb7);clear hb7 H6 HEQ;go_wp2_with fail
 refine(HAW.out _ _ H7).mono ?_;rintro e w8 ⟨rfl,hb8⟩;go_wp2_with fail
 first|go_ret|skip
 rw[HPO.out];exact⟨rfl,(H7.out.here hb8).bl⟩
end
end Go.Proofs.YtokjnjdbnabchaaGreatDoor
