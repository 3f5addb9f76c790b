/- Sp3, Aw28, V0. -/
import Derived.Test.YtlhmkgmojgnaaaaGreatDoorQGX12
set_option maxRecDepth 20000
set_option maxHeartbeats 1000000
namespace Go.Proofs.YtlhmkgmojgnaaaaGreatDoor
open Go.Lib renaming hid→jq
open Go.RowKit Go.Shelf
section
theorem Ze7(x y:Rat):(y=0/\Jc x y=(Fr.zero,10))\/(y≠0/\Jc x y=(Qh (x/y),0)):=by
 unfold Jc
 by_cases h:y=0
 ·exact .inl ⟨h,if_pos h⟩
 ·exact .inr ⟨h,if_neg h⟩
theorem Ze8(p v r:Fr)(w:World)(hp:Pow w)(hp2:p.Sz 100)(hv:v.Sz 100)(hr:r.Sz 100):Calls Tryz.prog 13 #[QA p,QA v,QA r] w (XO (YL p v r) w):=by
 have H4:=jq (Fr4.new w p v r);have HP:=jq hp;obtain⟨x0,x1⟩:=H4.out.a.cells
 obtain⟨y0,y1⟩:=H4.out.b.cells
 obtain⟨z0,z1⟩:=H4.out.c.cells
 have HCK:=jq (fun W A c (hb:Below w.1.size w W) hs=>ZbG A c p v r W (hp.here hb) (hp2.more (by omega)) (hv.more (by omega)) (hr.more (by omega)) hs);have hgs:(Qh (v.rat*r.rat)).Sz 201:=Zgs hv hr (by omega);have HMU:=jq (fun W (hb:Below w.1.size w W)=>ZaJ v r W (hp.here hb) (hv.more (by omega)) (hr.more (by omega)));have HAD:=jq (fun W (hb:Below w.1.size w W)=>Zgm p (Qh (v.rat*r.rat)) W (hp.here hb) (hp2.more (by omega)) (hgs.more (by omega)));rw[Ql] at HAD
 have hss:(Qh (p.rat+v.rat*r.rat)).Sz 404:=by
  have:=Zi3 (hp2.more (show 100<=201 by omega)) hgs (by omega)
  rwa [Ql] at this
 have HQU:=jq (fun W (hb:Below w.1.size w W)=>Zgr (Qh (v.rat*r.rat)) (Qh (p.rat+v.rat*r.rat)) W (hp.here hb) (hgs.more (by omega)) (hss.more (by omega)));rw[Ql,Ql] at HQU;have HQC:=jq (Ze7 (v.rat*r.rat) (p.rat+v.rat*r.rat));have HPL:=jq (show YL p v r=if YR p v r=0 then Jc (v.rat*r.rat) (p.rat+v.rat*r.rat) else(Fr.zero,YR p v r) from rfl);have HPO:=jq (show XO (YL p v r) w=fun e w'=>e=.returned (.tuple #[QA (YL p v r).1,.int .i64 (YL p v r).2])/\Below w.1.size w w' from rfl);generalize XO (YL p v r) w=post at*;generalize YL p v r=pl at*;generalize YR p v r=ck at*;generalize Qh (v.rat*r.rat)=gv_ at*;generalize Qh (p.rat+v.rat*r.rat)=sm at*;generalize hqq:Jc (v.rat*r.rat) (p.rat+v.rat*r.rat)=qq at*;obtain⟨res,qe⟩:=qq
 have HQE:=jq (show(qe=0)\/(qe=10/\res=Fr.zero) by
  rcases HQC.out with ⟨_,h⟩|⟨_,h⟩
  ·injection h with h1 h2;exact .inr ⟨h2,h1⟩
  ·injection h with h1 h2;exact .inl h2)
 clear hp hp2 hv hr hgs hss hqq HQC;unfold QA at*
 unfold S at*
 go_enter Tryz.func13,Tryz.ntmps13
 go_upto_region 1 with (fail)
 generalize ((((w.alloc (.cells #[.string ⟨p.n.toArray⟩,.string ⟨p.d.toArray⟩] 26)).alloc (.cells #[.string ⟨v.n.toArray⟩,.string ⟨v.d.toArray⟩] 26)).alloc (.cells #[.string ⟨r.n.toArray⟩,.string ⟨r.d.toArray⟩] 26)).alloc (.cells #[.string ⟨#[]⟩,.string ⟨#[]⟩] 26))=W at*;have HSL:=jq (Zc8 W p v r);go_wp2_with fail
 refine(HCK.out _ _ _ (H4.out.bl.alloc H4.out.bl.size _) (by have:=HSL.out;simpa using this)).mono ?_;rintro e w1 ⟨rfl,hb1⟩;have hbW1:Below W.1.size W w1:=((Below.refl _ W).alloc (Nat.le_refl _) _).trans (hb1.mono (by simp));have H5:=jq (H4.out.here hbW1);clear x0 x1 y0 y1 z0 z1 hb1 HSL;obtain⟨x0,x1⟩:=H5.out.a.cells
 obtain⟨y0,y1⟩:=H5.out.b.cells
 obtain⟨z0,z1⟩:=H5.out.c.cells
 by_cases hck:ck=0
 ·rw[if_pos hck] at HPL;subst hck;go_wp2_with fail
  refine(HMU.out _ H5.out.bl).mono ?_;rintro e w2 ⟨rfl,hb2⟩;unfold QA S;go_upto_region 5 with (fail)
  have hbA:=(Below.refl w2.1.size w2).alloc (Nat.le_refl _) (.cells #[.string ⟨gv_.n.toArray⟩,.string ⟨gv_.d.toArray⟩] 26);have H6:=jq ((H5.out.here hb2).here hbA);have HG6:=jq (FrB.new w2 gv_);have hlt:w.1.size+1+1+1<w2.1.size:=(H5.out.here hb2).d.lt;generalize w2.alloc _=W3 at*;clear x0 x1 y0 y1 z0 z1 hb2 hbA;obtain⟨x0,x1⟩:=H6.out.a.cells
  obtain⟨y0,y1⟩:=HG6.out.cells
  go_cut [10,11] (fun s t wc=>∃q9,s=.pointer (some ⟨q9,0,none⟩)/\t=.int .i64 qe/\Hid (FrB wc q9 res)/\Hid (Fr4 w w.1.size p v r wc))
  case first=>
   go_region_held3 (fun w'=>w'.cell? ⟨w.1.size,0,none⟩=some (.string ⟨p.n.toArray⟩)/\w'.cell? ⟨w.1.size,1,none⟩=some (.string ⟨p.d.toArray⟩)/\w'.cell? ⟨w2.1.size,0,none⟩=some (.string ⟨gv_.n.toArray⟩)/\w'.cell? ⟨w2.1.size,1,none⟩=some (.string ⟨gv_.d.toArray⟩))
    (first
      |exact⟨((H6.out.here hz2).far2 _ hq9 _ _).a.cells.1,((H6.out.here hz2).far2 _ hq9 _ _).a.cells.2,(((HG6.out.here hz2).far hq8 _).far hq8 _).cells.1,(((HG6.out.here hz2).far hq8 _).far hq8 _).cells.2⟩
      |exact⟨((H6.out.here hz2).here ((Below.refl _ _).alloc (Nat.le_refl _) _)).a.cells.1,((H6.out.here hz2).here ((Below.refl _ _).alloc (Nat.le_refl _) _)).a.cells.2,((HG6.out.here hz2).here ((Below.refl _ _).alloc (Nat.le_refl _) _)).cells.1,((HG6.out.here hz2).here ((Below.refl _ _).alloc (Nat.le_refl _) _)).cells.2⟩
      |exact⟨(H6.out.here hz2).a.cells.1,(H6.out.here hz2).a.cells.2,(HG6.out.here hz2).cells.1,(HG6.out.here hz2).cells.2⟩
      |exact⟨((H6.out.here hz).here ((Below.refl _ _).alloc (Nat.le_refl _) _)).a.cells.1,((H6.out.here hz).here ((Below.refl _ _).alloc (Nat.le_refl _) _)).a.cells.2,((HG6.out.here hz).here ((Below.refl _ _).alloc (Nat.le_refl _) _)).cells.1,((HG6.out.here hz).here ((Below.refl _ _).alloc (Nat.le_refl _) _)).cells.2⟩
      |exact⟨(H6.out.here hz).a.cells.1,(H6.out.here hz).a.cells.2,(HG6.out.here hz).cells.1,(HG6.out.here hz).cells.2⟩
      |go_keep)
    (first
      |(go_at_call 31;refine(HAD.out _ (by first|exact(H6.out.here (Below.refl _ W3).drew).bl|exact(H6.out.here ((Below.refl _ W3).alloc (Nat.le_refl _) _).drew).bl)).mono ?_;rintro e w4 ⟨rfl,hb4⟩;unfold QA S
        have hz:Below W3.1.size W3 w4:=by first|exact(Below.refl _ W3).drew.trans hb4|exact((Below.refl _ W3).alloc (Nat.le_refl _) _).drew.trans (hb4.mono (by simp))
        first|(have hq1:FrB w4 W3.1.size Fr.zero:=FrB.here (w:=(W3.alloc (.cells #[.string ⟨#[]⟩,.string ⟨#[]⟩] 26)).drew) (FrB.new W3 Fr.zero) hb4)|skip)
      |(go_at_call 30;refine(HQU.out _ (by first|exact(H6.out.here hz).bl|exact((H6.out.here hz).here ((Below.refl _ _).alloc (Nat.le_refl _) _)).bl)).mono ?_;rintro e w5 ⟨rfl,hb5⟩;unfold QA S
        have hz2:Below W3.1.size W3 w5:=by first|exact hz.trans (hb5.mono hz.size)|exact(hz.alloc hz.size _).trans (hb5.mono (by have:=hz.size;simp;omega))
        first
         |(have hq2:FrB w5 W3.1.size Fr.zero:=hq1.here hb5;have n0:=hq2.cells.1;have n1:=hq2.cells.2;have g0:=hq2.frozen 0;have g1:=hq2.frozen 1;have hq9:w.1.size+1+1+1<W3.1.size:=H6.out.d.lt;have hq8:w2.1.size≠W3.1.size:=by have:=HG6.out.lt;omega)
         |(have hq2:FrB w5 w4.1.size Fr.zero:=FrB.here (w:=w4.alloc (.cells #[.string ⟨#[]⟩,.string ⟨#[]⟩] 26)) (FrB.new w4 Fr.zero) hb5;have n0:=hq2.cells.1;have n1:=hq2.cells.2;have g0:=hq2.frozen 0;have g1:=hq2.frozen 1;have hq9:w.1.size+1+1+1<w4.1.size:=(H6.out.here hz).d.lt;have hq8:w2.1.size≠w4.1.size:=by have:=(HG6.out.here hz).lt;omega)
         |skip))
   all_goals
    go_wp2_with fail
    go_meet
    first
     |exact⟨_,rfl,rfl,hq2.set2 res,(H6.out.here hz2).far2 _ hq9 _ _⟩
     |exact⟨_,rfl,rfl,FrB.new w5 res,(H6.out.here hz2).here ((Below.refl _ _).alloc (Nat.le_refl _) _)⟩
  case rest=>
  clear x0 x1 y0 y1;obtain⟨q9,rfl,rfl,HB9,H7⟩:=hcut
  obtain⟨w6,rfl⟩:∃W,W=wc:=⟨_,rfl⟩
  obtain⟨n0,n1⟩:=HB9.out.cells
  have f0:=H7.out.d.frozen 0;have f1:=H7.out.d.frozen 1;obtain⟨t0,t1⟩:=H7.out.d.cells
  rcases HQE.out with hq0|⟨hq0,hz0⟩
  ·subst hq0;go_wp2_with fail
   refine bodyPost_ret (v:=.tuple #[.agg #[.string ⟨res.n.toArray⟩,.string ⟨res.d.toArray⟩],.int .i64 0]) (by simp[results,Tryz.results13,go_sem,t0,t1]) rfl ?_;rw[HPO.out,HPL.out];exact⟨rfl,(H7.out.bl.setCell (p:=⟨w.1.size+1+1+1,0,none⟩) (by simp only;omega) _).setCell (p:=⟨w.1.size+1+1+1,1,none⟩) (by simp only;omega) _⟩
  ·subst hq0;subst hz0
   go_wp2_with fail
   refine bodyPost_ret (v:=.tuple #[.agg #[.string ⟨#[]⟩,.string ⟨#[]⟩],.int .i64 10]) (by simp[results,Tryz.results13,go_sem,t0,t1]) rfl ?_;rw[HPO.out,HPL.out];exact⟨rfl,(H7.out.bl.setCell (p:=⟨w.1.size+1+1+1,0,none⟩) (by simp only;omega) _).setCell (p:=⟨w.1.size+1+1+1,1,none⟩) (by simp only;omega) _⟩
 ·rw[if_neg hck] at HPL;have hckb:(ck !=0)=true:=by simpa using hck
  have f0:=H5.out.d.frozen 0;have f1:=H5.out.d.frozen 1;obtain⟨t0,t1⟩:=H5.out.d.cells
  clear hck;go_wp2_with fail
  refine bodyPost_ret (v:=.tuple #[.agg #[.string ⟨#[]⟩,.string ⟨#[]⟩],.int .i64 ck]) (by simp[results,Tryz.results13,go_sem,t0,t1]) rfl ?_;rw[HPO.out,HPL.out];exact⟨rfl,(H5.out.bl.setCell (p:=⟨w.1.size+1+1+1,0,none⟩) (by simp only;omega) _).setCell (p:=⟨w.1.size+1+1+1,1,none⟩) (by simp only;omega) _⟩
end
section
theorem ZaM{n:Nat}{l:List UInt8}(h1:l.all Qw=true)(h2:∀b t,l=b::t->(b==48)=false)(h3:Qj l=n):Qa (n:Int)=l:=by
 rw[VU,<-h3,Vr h1 h2]
theorem Zd2{n:Nat}{l:List UInt8}(h1:l.all Qw=true)(h2:∀b t,l=b::t->(b==48)=false)(h3:Qj l=n):Qh (n:Rat)=⟨l,[]⟩:=by
 unfold Qh;simp only[Rat.num_natCast,Rat.den_natCast,if_true];rw[ZaM h1 h2 h3]
theorem ZaN{b:UInt8}{t:List UInt8}(h:(b==48)=false):∀c u,b::t=c::u->(c==48)=false:=fun c u e=>by injection e with e1 _;rw[<-e1];exact h
theorem ZjK:Qh 100=⟨[49,48,48],[]⟩:=Zd2 (n:=100) (by decide) (ZaN (by decide)) (by decide)
theorem f30:Qh 30=⟨[51,48],[]⟩:=Zd2 (n:=30) (by decide) (ZaN (by decide)) (by decide)
theorem f85:Qh 85=⟨[56,53],[]⟩:=Zd2 (n:=85) (by decide) (ZaN (by decide)) (by decide)
theorem ZiI:Qh (1/2)=⟨[49],[50]⟩:=by
 have h1:((1:Rat)/2).num=((1:Nat):Int):=by decide+kernel
 have h2:((1:Rat)/2).den=2:=by decide+kernel
 unfold Qh;rw[h1,h2,if_neg (by omega),ZaM (l:=[49]) (by decide) (ZaN (by decide)) (by decide),ZaM (l:=[50]) (by decide) (ZaN (by decide)) (by decide)]
theorem ZjL:Qh (3/20)=⟨[51],[50,48]⟩:=by
 have h1:((3:Rat)/20).num=((3:Nat):Int):=by decide+kernel
 have h2:((3:Rat)/20).den=20:=by decide+kernel
 unfold Qh;rw[h1,h2,if_neg (by omega),ZaM (l:=[51]) (by decide) (ZaN (by decide)) (by decide),ZaM (l:=[50,48]) (by decide) (ZaN (by decide)) (by decide)]
theorem Zgt{a b c:Rat}(ha:0<=a)(hb:0<=b)(hc:0<c):YR (Qh a) (Qh b) (Qh c)=0:=by
 unfold YR;rw[if_pos ⟨ZbZ _,ZbZ _,ZbZ _⟩,if_neg];rw[Ql,Ql,Ql,Zbb];rintro(h|h|h|h)
 ·exact Rat.not_le.2 h ha
 ·exact Rat.not_le.2 h hb
 ·exact Rat.not_le.2 h (Rat.le_of_lt hc)
 ·rw[h] at hc;exact Rat.lt_irrefl hc
theorem Zgu:YK ⟨[49,48,48],[]⟩ ⟨[51,48],[]⟩ ⟨[49],[50]⟩=(⟨[56,53],[]⟩,0):=by
 rw[<-ZjK,<-f30,<-ZiI,<-f85];unfold YK;rw[if_pos (Zgt (by decide+kernel) (by decide+kernel) (by decide+kernel)),Ql,Ql,Ql,show(100:Rat)-30*(1/2)=85 by decide+kernel,if_neg (by decide+kernel)]
theorem Zgv:YL ⟨[56,53],[]⟩ ⟨[51,48],[]⟩ ⟨[49],[50]⟩=(⟨[51],[50,48]⟩,0):=by
 rw[<-f85,<-f30,<-ZiI,<-ZjL];unfold YL;rw[if_pos (Zgt (by decide+kernel) (by decide+kernel) (by decide+kernel)),Ql,Ql,Ql];unfold Jc;rw[if_neg (by decide+kernel),show(30:Rat)*(1/2)/(85+30*(1/2))=3/20 by decide+kernel]
theorem Ze9(w:World)(hp:Pow w):Calls Tryz.prog 5 #[] w fun e w'=>e=.returned (.bool true)/\Below w.1.size w w':=by
 have HPR:=jq (Ze6 ⟨[49,48,48],[]⟩ ⟨[51,48],[]⟩ ⟨[49],[50]⟩ w hp ⟨by simp,by simp⟩ ⟨by simp,by simp⟩ ⟨by simp,by simp⟩);have HSH:=jq (fun W hp=>Ze8 ⟨[56,53],[]⟩ ⟨[51,48],[]⟩ ⟨[49],[50]⟩ W hp ⟨by simp,by simp⟩ ⟨by simp,by simp⟩ ⟨by simp,by simp⟩);rw[Zgu] at HPR;rw[Zgv] at HSH;have HP:=jq hp;clear hp;unfold QA at*
 unfold S at*
 go_enter Tryz.func5,Tryz.ntmps5
 go_wp2_with fail
 refine HPR.out.mono ?_;rintro e w1 ⟨rfl,hb1⟩;unfold QA S;have hbA:=(Below.refl w1.1.size w1).alloc (Nat.le_refl _) (.cells #[.string ⟨#[56,53]⟩,.string ⟨#[]⟩] 26);have HB1:=jq (show FrB (w1.alloc (.cells #[.string ⟨#[56,53]⟩,.string ⟨#[]⟩] 26)) w1.1.size ⟨[56,53],[]⟩ from FrB.new w1 ⟨[56,53],[]⟩);have hb0A:=hb1.trans (hbA.mono hb1.size);go_wp2_with fail
 generalize w1.alloc _=W at*;refine(HSH.out W (HP.out.here hb0A)).mono ?_;rintro e w2 ⟨rfl,hb2⟩;unfold QA S;have HB2:=jq (HB1.out.here hb2);obtain⟨x0,x1⟩:=HB2.out.cells
 have hlt:w1.1.size<w2.1.size:=HB2.out.lt;have hne:w1.1.size≠w2.1.size:=by omega
 have hb02:=hb0A.trans (hb2.mono hb0A.size);go_wp2_with fail
 go_ret
 exact⟨rfl,hb02.alloc hb02.size _⟩
theorem Zfa(f:Fr)(w:World)(_h1:f.n.length<=maxLen)(_h2:f.d.length<=maxLen):Calls Tryz.prog 26 #[QA f] w fun e w'=>e=.returned (.bool (decide (10<f.n.length\/10<f.d.length)))/\Below w.1.size w w':=by
 obtain⟨x0,x1⟩:=(FrB.new w f).cells
 have hbA:Below w.1.size w (w.alloc (.cells #[.string ⟨f.n.toArray⟩,.string ⟨f.d.toArray⟩] 26)):=(Below.refl _ _).alloc (Nat.le_refl _) _;have HBA:=jq hbA;clear hbA _h1 _h2;unfold QA S
 by_cases ha:10<f.n.length
 ·have HD:=jq (show decide (10<f.n.length\/10<f.d.length)=true by simp[ha]);go_enter Tryz.func26,Tryz.ntmps26
  go_wp2_with fail
  go_ret
  exact⟨rfl,HBA.out⟩
 ·have hdec:decide (10<f.n.length)=false:=by simpa using ha
  have HD:=jq (show decide (10<f.d.length)=decide (10<f.n.length\/10<f.d.length) by simp[ha]);go_enter Tryz.func26,Tryz.ntmps26
  go_wp2_with fail
  go_ret
  refine⟨?_,HBA.out⟩;rw[<-HD.out];simp
  rw[Bool.eq_iff_iff];simp
  omega
end
section
def XD(f:Fr):Bool:=decide (10<f.n.length\/10<f.d.length)
theorem Zgw(A:Option Addr)(c:Nat)(p v r:Fr)(w:World)(hs:Frs w w.1.size A 3 [p,v,r])(hl:∀x∈[p,v,r],x.n.length<=maxLen/\x.d.length<=maxLen):
 Calls Tryz.prog 11 #[.slice A 3 c] w fun e w'=>e=.returned (.bool (XD p||XD v||XD r))/\Below w.1.size w w':=by
 have HC:=jq (Ys 26 XD A 3 c [p,v,r] w (enters_of Tryz.func26 (by kernel_rfl) rfl) (fun W x hx hb=>Zfa x W (hl x hx).1 (hl x hx).2) hs (by omega));rw[show[p,v,r].any XD=(XD p||XD v||XD r) by simp[Bool.or_assoc]] at HC;generalize (XD p||XD v||XD r)=bb at*;clear hs hl;go_enter Tryz.func11,Tryz.ntmps11
 go_wp2_with fail
 refine HC.out.mono ?_;rintro e w1 ⟨rfl,hb1⟩;go_wp2_with fail
 go_ret
 exact⟨rfl,hb1⟩
structure FrT (w:World) (p:Nat) (f g h:Fr) (W:World):Prop where
 a:FrB W p f
 b:FrB W (p+1) g
 c:FrB W (p+1+1) h
 bl:Below w.1.size w W
 hp:w.1.size<=p
theorem FrT.here{w:World}{p:Nat}{f g h:Fr}{W W':World}(H:FrT w p f g h W)(hb:Below W.1.size W W'):FrT w p f g h W':=⟨H.a.here hb,H.b.here hb,H.c.here hb,H.bl.trans (hb.mono H.bl.size),H.hp⟩
theorem FrT.new(w:World)(f g h:Fr):FrT w w.1.size f g h (((w.alloc (.cells #[.string ⟨f.n.toArray⟩,.string ⟨f.d.toArray⟩] 26)).alloc (.cells #[.string ⟨g.n.toArray⟩,.string ⟨g.d.toArray⟩] 26)).alloc (.cells #[.string ⟨h.n.toArray⟩,.string ⟨h.d.toArray⟩] 26)):=by
 refine⟨((FrB.new w f).alloc _).alloc _,?_,?_,(((Below.refl _ _).alloc (Nat.le_refl _) _).alloc (by simp) _).alloc (by simp;omega) _,Nat.le_refl _⟩
 ·have:=(FrB.new (w.alloc (.cells #[.string ⟨f.n.toArray⟩,.string ⟨f.d.toArray⟩] 26)) g).alloc (.cells #[.string ⟨h.n.toArray⟩,.string ⟨h.d.toArray⟩] 26)
  simp only[World.size_alloc] at this;exact this
 ·have:=FrB.new ((w.alloc (.cells #[.string ⟨f.n.toArray⟩,.string ⟨f.d.toArray⟩] 26)).alloc (.cells #[.string ⟨g.n.toArray⟩,.string ⟨g.d.toArray⟩] 26)) h
  simp only[World.size_alloc] at this;exact this
end
end Go.Proofs.YtlhmkgmojgnaaaaGreatDoor
