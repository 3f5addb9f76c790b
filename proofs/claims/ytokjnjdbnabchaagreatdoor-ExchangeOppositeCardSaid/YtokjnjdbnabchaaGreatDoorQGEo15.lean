/- Fp6, Cf, FpQ. -/
import Derived.Test.YtokjnjdbnabchaaGreatDoorQGEo9
import Derived.Test.YtokjnjdbnabchaaGreatDoorQGEo32
set_option maxRecDepth 20000
set_option maxHeartbeats 1000000
namespace Go.Proofs.YtokjnjdbnabchaaGreatDoor
open Go.Lib renaming hid→jq
open Go.RowKit Go.Shelf
section
def Jn(r:Fr×Int)(w:World)(e:Ending)(w':World):Prop:=e=.returned (.tuple #[Qj r.1,.int .i64 r.2])/\Below w.1.size w w'
def Jg(x y:Rat):Fr×Int:=if y=0 then(Fr.zero,10) else(Qd (x/y),0)
theorem Zfc(n:Int):(QO n==0)=decide (n=0):=by
 unfold QO;rw[Bool.eq_iff_iff];simp
 (repeat' split)<;>omega
theorem Zie{f h:Fr}{L:Nat}(hf:f.Sz L)(hh:h.Sz L)(hL:1<=L):(Qd (f.rat-h.rat)).Sz (L+L+1+1):=ZgJ (ZhX hf hh hL)
theorem Vl(f h:Fr)(w:World)(hp:Pow w)(hf:f.Sz 20000)(hh:h.Sz 20000):Calls Tryz.prog 39 #[Qj f,Qj h] w (Xe (VC f.rat h.rat) w):=by
 have HSU:=jq (fun W hp=>Zfb f h W hp hf hh)
 have hsz:(Qd (f.rat-h.rat)).Sz 40002:=by
  obtain⟨K,hKe⟩:∃K:Nat,K=20000:=⟨_,rfl⟩
  rw[<-hKe] at hf hh;have:=Zie hf hh (by omega)
  rw[hKe] at this;exact this
 have HCR:=jq (show VC f.rat h.rat=QO (val (Qd (f.rat-h.rat)).n-val []) by
  rw[ZeX,YF,Int.sub_zero];unfold Qd;simp only[Qi])
 have HPO:=jq (show Xe (VC f.rat h.rat) w=fun e w'=>e=.returned (.int .i64 (VC f.rat h.rat))/\Below w.1.size w w' from rfl);generalize Xe (VC f.rat h.rat) w=post at*;rw[HCR.out] at HPO;generalize Qd (f.rat-h.rat)=r at*;have HPA:=jq (fun W=>XX r W (by have:=hsz.2;omega));have HCM:=jq (fun W=>QL r.n [] W (by have:=hsz.1;omega) (by simp));have HP:=jq hp;have hB1:FrB ((w.alloc (.cells #[.string ⟨f.n.toArray⟩,.string ⟨f.d.toArray⟩] 28)).alloc (.cells #[.string ⟨h.n.toArray⟩,.string ⟨h.d.toArray⟩] 28)) w.1.size f:=(FrB.new w f).alloc _
 have hB2:FrB ((w.alloc (.cells #[.string ⟨f.n.toArray⟩,.string ⟨f.d.toArray⟩] 28)).alloc (.cells #[.string ⟨h.n.toArray⟩,.string ⟨h.d.toArray⟩] 28)) (w.1.size+1) h:=by
  have:=FrB.new (w.alloc (.cells #[.string ⟨f.n.toArray⟩,.string ⟨f.d.toArray⟩] 28)) h
  simp only[World.size_alloc] at this;exact this
 have hbA:Below w.1.size w ((w.alloc (.cells #[.string ⟨f.n.toArray⟩,.string ⟨f.d.toArray⟩] 28)).alloc (.cells #[.string ⟨h.n.toArray⟩,.string ⟨h.d.toArray⟩] 28)):=((Below.refl _ _).alloc (Nat.le_refl _) _).alloc (by simp) _;obtain⟨x0,x1⟩:=hB1.cells
 obtain⟨y0,y1⟩:=hB2.cells
 have HBA:=jq hbA;clear hp hf hh hsz HCR hB1 hB2 hbA;unfold Qj at*
 unfold S at*
 go_enter Tryz.func39,Tryz.ntmps39
 go_wp2_with fail
 generalize (w.alloc (.cells #[.string ⟨f.n.toArray⟩,.string ⟨f.d.toArray⟩] 28)).alloc (.cells #[.string ⟨h.n.toArray⟩,.string ⟨h.d.toArray⟩] 28)=W at*;refine(HSU.out W (HP.out.here HBA.out)).mono ?_;rintro e w1 ⟨rfl,hb1⟩;unfold Qj S;have hb01:=HBA.out.trans (hb1.mono HBA.out.size);go_wp2_with fail
 refine(HPA.out w1).mono ?_;rintro e w2 ⟨rfl,hb2⟩;unfold S;have hb02:=hb01.trans (hb2.mono hb01.size);go_wp2_with fail
 refine(HCM.out w2).mono ?_;rintro e w3 ⟨rfl,hb3⟩;have hb03:=hb02.trans (hb3.mono hb02.size);go_wp2_with fail
 rw[HPO.out];exact⟨rfl,hb03⟩
theorem Jo(a:List UInt8)(w:World)(hp:Pow w)(ha:a.length<=50000):Calls Tryz.prog 19 #[S a] w (Qh (Qd (val a)) w):=by
 have hbA:Below w.1.size w (w.alloc (.cells #[.string ⟨#[]⟩,.string ⟨#[]⟩] 28)):=(Below.refl _ _).alloc (Nat.le_refl _) _;have HMD:=jq (JG a [49] (w.alloc (.cells #[.string ⟨#[]⟩,.string ⟨#[]⟩] 28)) (hp.here hbA) ha (by simp) (by rw[YG];omega));rw[YG,ZcK] at HMD;have HPO:=jq (show Qh (Qd (val a)) w=fun e w'=>e=.returned (Qj (Qd (val a)))/\Below w.1.size w w' from rfl);generalize Qh (Qd (val a)) w=post at*;generalize Qd (val a)=res at*;have HB:=jq (show FrB (w.alloc (.cells #[.string ⟨#[]⟩,.string ⟨#[]⟩] 28)) w.1.size Fr.zero from FrB.new w Fr.zero);have HBA:=jq hbA;clear hp ha hbA;unfold Qj at*
 unfold S at*
 go_enter Tryz.func19,Tryz.ntmps19
 go_wp2_with fail
 generalize w.alloc _=W at*;refine HMD.out.mono ?_;rintro e w1 ⟨rfl,hb1⟩;unfold Qj S;have HB1:=jq (HB.out.here hb1);obtain⟨c0,c1⟩:=HB1.out.cells
 have f0:=HB1.out.frozen 0;have f1:=HB1.out.frozen 1;have hb01:=HBA.out.trans (hb1.mono HBA.out.size);go_wp2_with fail
 refine bodyPost_ret (v:=.agg #[.string ⟨res.n.toArray⟩,.string ⟨res.d.toArray⟩]) (by simp[results,Tryz.results19,go_sem,c0,c1]) rfl ?_;rw[HPO.out];exact⟨rfl,(hb01.setCell (p:=⟨w.1.size,0,none⟩) (Nat.le_refl _) _).setCell (p:=⟨w.1.size,1,none⟩) (Nat.le_refl _) _⟩
def ZbZ(f:Fr):Int:=if f.ok then 0 else 1
theorem ZcU(f:Fr)(w:World)(hp:Pow w)(hf:f.Sz 20000):Calls Tryz.prog 38 #[Qj f] w (Xe (ZbZ f) w):=by
 have hbA:Below w.1.size w (w.alloc (.cells #[.string ⟨f.n.toArray⟩,.string ⟨f.d.toArray⟩] 28)):=(Below.refl _ _).alloc (Nat.le_refl _) _;have HPA:=jq (fun W=>XX f W (by have:=hf.2;omega));have HMD:=jq (fun W hp=>JG f.n f.dt W hp (by have:=hf.1;omega) (by have:=Fr.dt_len hf.2 (by omega);omega) (by rw[Fr.val_dt];exact f.dv_ne));rw[Fr.val_dt,show Rat.divInt (val f.n) f.dv=f.rat from rfl] at HMD;have HPO:=jq (show Xe (ZbZ f) w=fun e w'=>e=.returned (.int .i64 (ZbZ f))/\Below w.1.size w w' from rfl);have HCK:=jq (show ZbZ f=if f=Qd f.rat then 0 else 1 from rfl);generalize Xe (ZbZ f) w=post at*;generalize Qd f.rat=g at*;have HB:=jq (FrB.new w f);have HBA:=jq hbA;have HP:=jq hp;obtain⟨x0,x1⟩:=HB.out.cells
 clear hp hf hbA
 have HEQ:=jq (show ZbZ f=if(f.n==g.n)&&(f.d==g.d) then 0 else 1 by
  rw[HCK.out]
  by_cases h:f=g
  ·subst h;simp
  ·rw[if_neg h,if_neg];intro h2;simp at h2;exact h (Fr.ext_ h2.1 h2.2))
 clear HCK;unfold Qj at*
 unfold S at*
 cases hn:(f.n==g.n)<;>cases hd:(f.d==g.d)
 all_goals
  rw[hn,hd] at HEQ;simp only[Bool.and_true,Bool.and_false,Bool.false_eq_true,if_true,if_false] at HEQ;go_enter Tryz.func38,Tryz.ntmps38
  go_upto_region 1 with (fail)
  generalize w.alloc _=W at*
  go_region_held3 (fun w'=>w'.cell? ⟨w.1.size,0,none⟩=some (.string ⟨f.n.toArray⟩)/\w'.cell? ⟨w.1.size,1,none⟩=some (.string ⟨f.d.toArray⟩))
   (first
     |exact(HB.out.here hz2).cells
     |exact(HB.out.here hz).cells
     |go_keep)
   (first
     |(go_at_call 79;refine(HPA.out _).mono ?_;rintro e w1 ⟨rfl,hb1⟩;unfold S;have hz:Below W.1.size W w1:=(Below.refl _ W).drew.trans hb1)
     |(go_at_call 54;refine(HMD.out _ (HP.out.here (HBA.out.trans (hz.mono HBA.out.size)))).mono ?_;rintro e w2 ⟨rfl,hb2⟩;unfold Qj S;have hz2:=hz.trans (hb2.mono hz.size)))
  all_goals
   go_wp2_with fail
   rw[HPO.out,HEQ.out];exact⟨rfl,HBA.out.trans (hz2.mono HBA.out.size)⟩
end
section
def F2(f:Fr):List Value:=[S f.n,S f.d]
theorem Zfd(f:Fr):(F2 f).length=2:=rfl
abbrev Frs(w:World)(B:Nat)(A:Option Addr)(n:Nat)(xs:List Fr):Prop:=Sl F2 2 w B A n xs
theorem Sl.fr{w:World}{B:Nat}{A:Option Addr}{n:Nat}{xs:List Fr}{i:Nat}(h:Frs w B A n xs)(hi:i<n):
 ∃b off x,A=some ⟨b,off,none⟩/\b<B/\xs[i]?=some x/\w.cell? ⟨b,off+i*2,none⟩=some (.string ⟨x.n.toArray⟩)/\w.cell? ⟨b,off+i*2+1,none⟩=some (.string ⟨x.d.toArray⟩):=by
 obtain⟨b,off,x,hA,hb,hx,hc⟩:=h.at_ hi
 exact⟨b,off,x,hA,hb,hx,hc 0 _ rfl,hc 1 _ rfl⟩
end
section
theorem Zfz(f h:Fr)(w:World)(hp:Pow w)(hf:f.Sz 20000)(hh:h.Sz 20000):Calls Tryz.prog 86 #[Qj f,Qj h] w (Jn (Jg f.rat h.rat) w):=by
 have HCM:=jq (QL h.n [] (((w.alloc (.cells #[.string ⟨f.n.toArray⟩,.string ⟨f.d.toArray⟩] 28)).alloc (.cells #[.string ⟨h.n.toArray⟩,.string ⟨h.d.toArray⟩] 28)).alloc (.cells #[.string ⟨#[]⟩,.string ⟨#[]⟩] 28)) (by have:=hh.1;omega) (by simp));rw[show val ([]:List UInt8)=0 from YF,Int.sub_zero] at HCM
 have HAP:=jq (fun(h0:val h.n≠0) p W hlt hc hpw=>by
  obtain⟨K,hKe⟩:∃K:Nat,K=20000:=⟨_,rfl⟩
  rw[<-hKe] at hf hh;have hK:1<=K:=by omega
  exact VH 103 _ Zi2 p f h W hlt hc hpw (by rw[<-hKe];exact hf) (by rw[<-hKe];exact hh) (Int.mul_ne_zero f.dv_ne h0) (VI (Qq (QV hf.1) (Fr.dv_lt hh.2 hK)) (by omega)) (VI (Qq (Fr.dv_lt hf.2 hK) (QV hh.1)) (by omega)))
 simp only[<-ZgF] at HAP;have HQ:=jq (show Jg f.rat h.rat=if val h.n=0 then(Fr.zero,10) else(Qd (f.rat/h.rat),0) by unfold Jg;simp only[ZbM]);have HPO:=jq (show Jn (Jg f.rat h.rat) w=fun e w'=>e=.returned (.tuple #[Qj (Jg f.rat h.rat).1,.int .i64 (Jg f.rat h.rat).2])/\Below w.1.size w w' from rfl);generalize Jn (Jg f.rat h.rat) w=post at*;generalize Qd (f.rat/h.rat)=res at*;have H3:=jq (Fr3.new w f h);have HP:=jq hp;obtain⟨x0,x1,y0,y1⟩:=H3.out.held
 clear hp hf hh;unfold Qj at*
 unfold S at*
 go_enter Tryz.func86,Tryz.ntmps86
 go_wp2_with fail
 generalize (((w.alloc (.cells #[.string ⟨f.n.toArray⟩,.string ⟨f.d.toArray⟩] 28)).alloc (.cells #[.string ⟨h.n.toArray⟩,.string ⟨h.d.toArray⟩] 28)).alloc (.cells #[.string ⟨#[]⟩,.string ⟨#[]⟩] 28))=W0 at*;refine HCM.out.mono ?_;rintro e W ⟨rfl,hb0⟩;have HS:=jq (Zfc (val h.n));have H4:=jq (H3.out.here hb0);clear x0 x1 y0 y1;obtain⟨x0,x1,y0,y1⟩:=H4.out.held
 by_cases h0:val h.n=0
 ·have hs:(QO (val h.n)==0)=true:=by rw[HS.out];simp[h0]
  rw[if_pos h0] at HQ;have z0:=H4.out.c.cells.1;have z1:=H4.out.c.cells.2;have f0:=H4.out.c.frozen 0;have f1:=H4.out.c.frozen 1;clear h0 HS;go_wp2_with fail
  refine bodyPost_ret (v:=.tuple #[.agg #[.string ⟨#[]⟩,.string ⟨#[]⟩],.int .i64 10]) (by simp[results,Tryz.results86,go_sem,z0,z1]) rfl ?_;rw[HPO.out,HQ.out];exact⟨rfl,(H4.out.bl.setCell (p:=⟨w.1.size+1+1,0,none⟩) (by simp only;omega) _).setCell (p:=⟨w.1.size+1+1,1,none⟩) (by simp only;omega) _⟩
 ·have hs:(QO (val h.n)==0)=false:=by rw[HS.out];simp[h0]
  rw[if_neg h0] at HQ;have HAP2:=jq (HAP.out h0);clear h0 HS HAP;go_upto_region 3 with (fail)
  go_region_held3 (fun w'=>w'.cell? ⟨w.1.size,0,none⟩=some (.string ⟨f.n.toArray⟩)/\w'.cell? ⟨w.1.size,1,none⟩=some (.string ⟨f.d.toArray⟩)/\w'.cell? ⟨w.1.size+1,0,none⟩=some (.string ⟨h.n.toArray⟩)/\w'.cell? ⟨w.1.size+1,1,none⟩=some (.string ⟨h.d.toArray⟩))
   (first
     |exact(H4.out.here hz2).heldS _ _
     |exact(H4.out.here hz2).held
     |exact(H4.out.here hz).held
     |go_keep)
   (first
     |(go_at_call 57;refine(Zbg _).mono ?_;rintro e w1 ⟨p,rfl,hlt,hc,hb1⟩;have hz:Below W.1.size W w1:=(Below.refl _ W).drew.trans hb1;have hix:=Zfa p w1)
     |(go_at_call 56;refine(HAP2.out p _ hlt hc (HP.out.here (H4.out.here hz).bl)).mono ?_;rintro e w2 ⟨rfl,hb2⟩;unfold Qj S;have hz2:=hz.trans (hb2.mono hz.size);have z0:=(H4.out.here hz2).c.cells.1;have z1:=(H4.out.here hz2).c.cells.2;have f0:=(H4.out.here hz2).c.frozen 0;have f1:=(H4.out.here hz2).c.frozen 1))
  all_goals
   go_wp2_with fail
   refine bodyPost_ret (v:=.tuple #[.agg #[.string ⟨res.n.toArray⟩,.string ⟨res.d.toArray⟩],.int .i64 0]) (by simp[results,Tryz.results86,go_sem,z0,z1]) rfl ?_;rw[HPO.out,HQ.out];exact⟨rfl,((H4.out.here hz2).bl.setCell (p:=⟨w.1.size+1+1,0,none⟩) (by simp only;omega) _).setCell (p:=⟨w.1.size+1+1,1,none⟩) (by simp only;omega) _⟩
end
end Go.Proofs.YtokjnjdbnabchaaGreatDoor
