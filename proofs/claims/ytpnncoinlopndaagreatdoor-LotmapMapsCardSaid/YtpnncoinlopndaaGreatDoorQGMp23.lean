/- Fp5, Fp6, D1, AL1, Sc, Cf, FpQ, Sp1, Sp2, Sp3, Aw28, V0. -/
import Derived.Test.YtpnncoinlopndaaGreatDoorQGMp4
set_option maxRecDepth 20000
set_option maxHeartbeats 2000000
namespace Go.Proofs.YtpnncoinlopndaaGreatDoor
open Go.Lib renaming hid→jq
open Go.RowKit Go.Shelf
section
structure Fr3 (w:World) (p:Nat) (f h:Fr) (W:World):Prop where
 a:FrB W p f
 b:FrB W (p+1) h
 c:FrB W (p+1+1) Fr.zero
 bl:Below w.1.size w W
 hp:w.1.size<=p
theorem Fr3.here{w:World}{p:Nat}{f h:Fr}{W W':World}(H:Fr3 w p f h W)(hb:Below W.1.size W W'):Fr3 w p f h W':=⟨H.a.here hb,H.b.here hb,H.c.here hb,H.bl.trans (hb.mono H.bl.size),H.hp⟩
theorem Fr3.held{w:World}{p:Nat}{f h:Fr}{W:World}(H:Fr3 w p f h W):W.cell? ⟨p,0,none⟩=some (.string ⟨f.n.toArray⟩)/\W.cell? ⟨p,1,none⟩=some (.string ⟨f.d.toArray⟩)/\W.cell? ⟨p+1,0,none⟩=some (.string ⟨h.n.toArray⟩)/\W.cell? ⟨p+1,1,none⟩=some (.string ⟨h.d.toArray⟩):=
 ⟨H.a.cells.1,H.a.cells.2,H.b.cells.1,H.b.cells.2⟩
theorem Fr3.heldS{w:World}{p:Nat}{f h:Fr}{W:World}(H:Fr3 w p f h W)(u v:Value):((W.setCell ⟨p+1+1,0,none⟩ u).setCell ⟨p+1+1,1,none⟩ v).cell? ⟨p,0,none⟩=some (.string ⟨f.n.toArray⟩)/\((W.setCell ⟨p+1+1,0,none⟩ u).setCell ⟨p+1+1,1,none⟩ v).cell? ⟨p,1,none⟩=some (.string ⟨f.d.toArray⟩)/\((W.setCell ⟨p+1+1,0,none⟩ u).setCell ⟨p+1+1,1,none⟩ v).cell? ⟨p+1,0,none⟩=some (.string ⟨h.n.toArray⟩)/\((W.setCell ⟨p+1+1,0,none⟩ u).setCell ⟨p+1+1,1,none⟩ v).cell? ⟨p+1,1,none⟩=some (.string ⟨h.d.toArray⟩):=
 have h1:=((H.a.far (a:=⟨p+1+1,0,none⟩) (by simp only;omega) u).far (a:=⟨p+1+1,1,none⟩) (by simp only;omega) v).cells;have h2:=((H.b.far (a:=⟨p+1+1,0,none⟩) (by simp only;omega) u).far (a:=⟨p+1+1,1,none⟩) (by simp only;omega) v).cells
 ⟨h1.1,h1.2,h2.1,h2.2⟩
theorem Fr3.new(w:World)(f h:Fr):Fr3 w w.1.size f h (((w.alloc (.cells #[.string ⟨f.n.toArray⟩,.string ⟨f.d.toArray⟩] 26)).alloc (.cells #[.string ⟨h.n.toArray⟩,.string ⟨h.d.toArray⟩] 26)).alloc (.cells #[.string ⟨#[]⟩,.string ⟨#[]⟩] 26)):=by
 refine⟨((FrB.new w f).alloc _).alloc _,?_,?_,(((Below.refl _ _).alloc (Nat.le_refl _) _).alloc (by simp) _).alloc (by simp;omega) _,Nat.le_refl _⟩
 ·have:=(FrB.new (w.alloc (.cells #[.string ⟨f.n.toArray⟩,.string ⟨f.d.toArray⟩] 26)) h).alloc (.cells #[.string ⟨#[]⟩,.string ⟨#[]⟩] 26)
  simp only[World.size_alloc] at this;exact this
 ·have:=FrB.new ((w.alloc (.cells #[.string ⟨f.n.toArray⟩,.string ⟨f.d.toArray⟩] 26)).alloc (.cells #[.string ⟨h.n.toArray⟩,.string ⟨h.d.toArray⟩] 26)) Fr.zero
  simp only[World.size_alloc] at this;exact this
theorem ZjU(p:Nat)(W:World):(Instr.index 139 (.agg #[.func (.func 149) #[] #[.pointer (some ⟨p,0,none⟩)],.func (.func 150) #[] #[.pointer (some ⟨p,0,none⟩)],.func (.func 151) #[] #[.pointer (some ⟨p,0,none⟩)],.func (.func 152) #[] #[.pointer (some ⟨p,0,none⟩)]]) (.int .i64 1)).run Tryz.prog W=.ok (.func (.func 150) #[] #[.pointer (some ⟨p,0,none⟩)]) W:=by kernel_rfl
theorem ZjV(p:Nat)(W:World):(Instr.index 139 (.agg #[.func (.func 149) #[] #[.pointer (some ⟨p,0,none⟩)],.func (.func 150) #[] #[.pointer (some ⟨p,0,none⟩)],.func (.func 151) #[] #[.pointer (some ⟨p,0,none⟩)],.func (.func 152) #[] #[.pointer (some ⟨p,0,none⟩)]]) (.int .i64 2)).run Tryz.prog W=.ok (.func (.func 151) #[] #[.pointer (some ⟨p,0,none⟩)]) W:=by kernel_rfl
theorem ZeW{n:Int}{L M:Nat}(h:n.natAbs<10^L)(hL:L+1<=M):(Qa n).length<=M:=Nat.le_trans (Qd h) hL
theorem ZfN(f h:Fr)(w:World)(hp:Pow w)(hf:f.Sz 20000)(hh:h.Sz 20000):Calls Tryz.prog 102 #[QC f,QC h] w (Qg (Qf (f.rat-h.rat)) w):=by
 have HAP:=jq (fun p W hlt hc hpw=>by
  obtain⟨K,hKe⟩:∃K:Nat,K=20000:=⟨_,rfl⟩
  rw[<-hKe] at hf hh;have hK:1<=K:=by omega
  exact Zel 150 _ ZnI p f h W hlt hc hpw (by rw[<-hKe];exact hf) (by rw[<-hKe];exact hh) (Int.mul_ne_zero f.dv_ne h.dv_ne) (ZeW (Vz (QB (Qz hf.1) (Fr.dv_lt hh.2 hK)) (QB (Qz hh.1) (Fr.dv_lt hf.2 hK))) (by omega)) (ZeW (QB (Fr.dv_lt hf.2 hK) (Fr.dv_lt hh.2 hK)) (by omega)))
 simp only[<-Zh0] at HAP;have HPO:=jq (show Qg (Qf (f.rat-h.rat)) w=fun e w'=>e=.returned (QC (Qf (f.rat-h.rat)))/\Below w.1.size w w' from rfl);generalize Qg (Qf (f.rat-h.rat)) w=post at*;generalize Qf (f.rat-h.rat)=res at*;have H3:=jq (Fr3.new w f h);have HP:=jq hp;obtain⟨x0,x1,y0,y1⟩:=H3.out.held
 clear hp hf hh;unfold QC at*
 unfold S at*
 go_enter Tryz.func102,Tryz.ntmps102
 go_upto_region 1 with (fail)
 generalize (((w.alloc (.cells #[.string ⟨f.n.toArray⟩,.string ⟨f.d.toArray⟩] 26)).alloc (.cells #[.string ⟨h.n.toArray⟩,.string ⟨h.d.toArray⟩] 26)).alloc (.cells #[.string ⟨#[]⟩,.string ⟨#[]⟩] 26))=W at*
 go_region_held3 (fun w'=>w'.cell? ⟨w.1.size,0,none⟩=some (.string ⟨f.n.toArray⟩)/\w'.cell? ⟨w.1.size,1,none⟩=some (.string ⟨f.d.toArray⟩)/\w'.cell? ⟨w.1.size+1,0,none⟩=some (.string ⟨h.n.toArray⟩)/\w'.cell? ⟨w.1.size+1,1,none⟩=some (.string ⟨h.d.toArray⟩))
  (first
    |exact(H3.out.here hz2).heldS _ _
    |exact(H3.out.here hz2).held
    |exact(H3.out.here hz).held
    |go_keep)
  (first
    |(go_at_call 109;refine(Zh9 _).mono ?_;rintro e w1 ⟨p,rfl,hlt,hc,hb1⟩;have hz:Below W.1.size W w1:=(Below.refl _ W).drew.trans hb1;have hix:=ZjU p w1)
    |(go_at_call 108;refine(HAP.out p _ hlt hc (HP.out.here (H3.out.here hz).bl)).mono ?_;rintro e w2 ⟨rfl,hb2⟩;unfold QC S;have hz2:=hz.trans (hb2.mono hz.size);have z0:=(H3.out.here hz2).c.cells.1;have z1:=(H3.out.here hz2).c.cells.2;have f0:=(H3.out.here hz2).c.frozen 0;have f1:=(H3.out.here hz2).c.frozen 1))
 all_goals
  go_wp2_with fail
  refine bodyPost_ret (v:=.agg #[.string ⟨res.n.toArray⟩,.string ⟨res.d.toArray⟩]) (by simp[results,Tryz.results102,go_sem,z0,z1]) rfl ?_;rw[HPO.out];exact⟨rfl,((H3.out.here hz2).bl.setCell (p:=⟨w.1.size+1+1,0,none⟩) (by simp only;omega) _).setCell (p:=⟨w.1.size+1+1,1,none⟩) (by simp only;omega) _⟩
theorem Zbm(f h:Fr)(w:World)(hp:Pow w)(hf:f.Sz 20000)(hh:h.Sz 20000):Calls Tryz.prog 55 #[QC f,QC h] w (Qg (Qf (f.rat*h.rat)) w):=by
 have HAP:=jq (fun p W hlt hc hpw=>by
  obtain⟨K,hKe⟩:∃K:Nat,K=20000:=⟨_,rfl⟩
  rw[<-hKe] at hf hh;have hK:1<=K:=by omega
  exact Zel 151 _ ZnJ p f h W hlt hc hpw (by rw[<-hKe];exact hf) (by rw[<-hKe];exact hh) (Int.mul_ne_zero f.dv_ne h.dv_ne) (ZeW (QB (Qz hf.1) (Qz hh.1)) (by omega)) (ZeW (QB (Fr.dv_lt hf.2 hK) (Fr.dv_lt hh.2 hK)) (by omega)))
 simp only[<-ZeS] at HAP;have HPO:=jq (show Qg (Qf (f.rat*h.rat)) w=fun e w'=>e=.returned (QC (Qf (f.rat*h.rat)))/\Below w.1.size w w' from rfl);generalize Qg (Qf (f.rat*h.rat)) w=post at*;generalize Qf (f.rat*h.rat)=res at*;have H3:=jq (Fr3.new w f h);have HP:=jq hp;obtain⟨x0,x1,y0,y1⟩:=H3.out.held
 clear hp hf hh;unfold QC at*
 unfold S at*
 go_enter Tryz.func55,Tryz.ntmps55
 go_upto_region 1 with (fail)
 generalize (((w.alloc (.cells #[.string ⟨f.n.toArray⟩,.string ⟨f.d.toArray⟩] 26)).alloc (.cells #[.string ⟨h.n.toArray⟩,.string ⟨h.d.toArray⟩] 26)).alloc (.cells #[.string ⟨#[]⟩,.string ⟨#[]⟩] 26))=W at*
 go_region_held3 (fun w'=>w'.cell? ⟨w.1.size,0,none⟩=some (.string ⟨f.n.toArray⟩)/\w'.cell? ⟨w.1.size,1,none⟩=some (.string ⟨f.d.toArray⟩)/\w'.cell? ⟨w.1.size+1,0,none⟩=some (.string ⟨h.n.toArray⟩)/\w'.cell? ⟨w.1.size+1,1,none⟩=some (.string ⟨h.d.toArray⟩))
  (first
    |exact(H3.out.here hz2).heldS _ _
    |exact(H3.out.here hz2).held
    |exact(H3.out.here hz).held
    |go_keep)
  (first
    |(go_at_call 109;refine(Zh9 _).mono ?_;rintro e w1 ⟨p,rfl,hlt,hc,hb1⟩;have hz:Below W.1.size W w1:=(Below.refl _ W).drew.trans hb1;have hix:=ZjV p w1)
    |(go_at_call 108;refine(HAP.out p _ hlt hc (HP.out.here (H3.out.here hz).bl)).mono ?_;rintro e w2 ⟨rfl,hb2⟩;unfold QC S;have hz2:=hz.trans (hb2.mono hz.size);have z0:=(H3.out.here hz2).c.cells.1;have z1:=(H3.out.here hz2).c.cells.2;have f0:=(H3.out.here hz2).c.frozen 0;have f1:=(H3.out.here hz2).c.frozen 1))
 all_goals
  go_wp2_with fail
  refine bodyPost_ret (v:=.agg #[.string ⟨res.n.toArray⟩,.string ⟨res.d.toArray⟩]) (by simp[results,Tryz.results55,go_sem,z0,z1]) rfl ?_;rw[HPO.out];exact⟨rfl,((H3.out.here hz2).bl.setCell (p:=⟨w.1.size+1+1,0,none⟩) (by simp only;omega) _).setCell (p:=⟨w.1.size+1+1,1,none⟩) (by simp only;omega) _⟩
end
section
def ZaE(r:Fr×Int)(w:World)(e:Ending)(w':World):Prop:=e=.returned (.tuple #[QC r.1,.int .i64 r.2])/\Below w.1.size w w'
theorem ZfO(n:Int):(Qy n==0)=decide (n=0):=by
 unfold Qy;rw[Bool.eq_iff_iff];simp
 (repeat' split)<;>omega
theorem ZmK{f h:Fr}{L:Nat}(hf:f.Sz L)(hh:h.Sz L)(hL:1<=L):(Qf (f.rat-h.rat)).Sz (L+L+1+1):=QF (ZmJ hf hh hL)
theorem Zbn(f h:Fr)(w:World)(hp:Pow w)(hf:f.Sz 20000)(hh:h.Sz 20000):Calls Tryz.prog 45 #[QC f,QC h] w (Qq (Xe f.rat h.rat) w):=by
 have HSU:=jq (fun W hp=>ZfN f h W hp hf hh)
 have hsz:(Qf (f.rat-h.rat)).Sz 40002:=by
  obtain⟨K,hKe⟩:∃K:Nat,K=20000:=⟨_,rfl⟩
  rw[<-hKe] at hf hh;have:=ZmK hf hh (by omega)
  rw[hKe] at this;exact this
 have HCR:=jq (show Xe f.rat h.rat=Qy (val (Qf (f.rat-h.rat)).n-val []) by
  rw[ZjQ,XK,Int.sub_zero];unfold Qf;simp only[Qc])
 have HPO:=jq (show Qq (Xe f.rat h.rat) w=fun e w'=>e=.returned (.int .i64 (Xe f.rat h.rat))/\Below w.1.size w w' from rfl);generalize Qq (Xe f.rat h.rat) w=post at*;rw[HCR.out] at HPO;generalize Qf (f.rat-h.rat)=r at*;have HPA:=jq (fun W=>Vs r W (by have:=hsz.2;omega));have HCM:=jq (fun W=>Xf r.n [] W (by have:=hsz.1;omega) (by simp));have HP:=jq hp;have hB1:FrB ((w.alloc (.cells #[.string ⟨f.n.toArray⟩,.string ⟨f.d.toArray⟩] 26)).alloc (.cells #[.string ⟨h.n.toArray⟩,.string ⟨h.d.toArray⟩] 26)) w.1.size f:=(FrB.new w f).alloc _
 have hB2:FrB ((w.alloc (.cells #[.string ⟨f.n.toArray⟩,.string ⟨f.d.toArray⟩] 26)).alloc (.cells #[.string ⟨h.n.toArray⟩,.string ⟨h.d.toArray⟩] 26)) (w.1.size+1) h:=by
  have:=FrB.new (w.alloc (.cells #[.string ⟨f.n.toArray⟩,.string ⟨f.d.toArray⟩] 26)) h
  simp only[World.size_alloc] at this;exact this
 have hbA:Below w.1.size w ((w.alloc (.cells #[.string ⟨f.n.toArray⟩,.string ⟨f.d.toArray⟩] 26)).alloc (.cells #[.string ⟨h.n.toArray⟩,.string ⟨h.d.toArray⟩] 26)):=((Below.refl _ _).alloc (Nat.le_refl _) _).alloc (by simp) _;obtain⟨x0,x1⟩:=hB1.cells
 obtain⟨y0,y1⟩:=hB2.cells
 have HBA:=jq hbA;clear hp hf hh hsz HCR hB1 hB2 hbA;unfold QC at*
 unfold S at*
 go_enter Tryz.func45,Tryz.ntmps45
 go_wp2_with fail
 generalize (w.alloc (.cells #[.string ⟨f.n.toArray⟩,.string ⟨f.d.toArray⟩] 26)).alloc (.cells #[.string ⟨h.n.toArray⟩,.string ⟨h.d.toArray⟩] 26)=W at*;refine(HSU.out W (HP.out.here HBA.out)).mono ?_;rintro e w1 ⟨rfl,hb1⟩;unfold QC S;have hb01:=HBA.out.trans (hb1.mono HBA.out.size);go_wp2_with fail
 refine(HPA.out w1).mono ?_;rintro e w2 ⟨rfl,hb2⟩;unfold S;have hb02:=hb01.trans (hb2.mono hb01.size);go_wp2_with fail
 refine(HCM.out w2).mono ?_;rintro e w3 ⟨rfl,hb3⟩;have hb03:=hb02.trans (hb3.mono hb02.size);go_wp2_with fail
 rw[HPO.out];exact⟨rfl,hb03⟩
theorem Zbo(a:List UInt8)(w:World)(hp:Pow w)(ha:a.length<=50000):Calls Tryz.prog 60 #[S a] w (Qg (Qf (val a)) w):=by
 have hbA:Below w.1.size w (w.alloc (.cells #[.string ⟨#[]⟩,.string ⟨#[]⟩] 26)):=(Below.refl _ _).alloc (Nat.le_refl _) _;have HMD:=jq (Zbl a [49] (w.alloc (.cells #[.string ⟨#[]⟩,.string ⟨#[]⟩] 26)) (hp.here hbA) ha (by simp) (by rw[Yn];omega));rw[Yn,Xw] at HMD;have HPO:=jq (show Qg (Qf (val a)) w=fun e w'=>e=.returned (QC (Qf (val a)))/\Below w.1.size w w' from rfl);generalize Qg (Qf (val a)) w=post at*;generalize Qf (val a)=res at*;have HB:=jq (show FrB (w.alloc (.cells #[.string ⟨#[]⟩,.string ⟨#[]⟩] 26)) w.1.size Fr.zero from FrB.new w Fr.zero);have HBA:=jq hbA;clear hp ha hbA;unfold QC at*
 unfold S at*
 go_enter Tryz.func60,Tryz.ntmps60
 go_wp2_with fail
 generalize w.alloc _=W at*;refine HMD.out.mono ?_;rintro e w1 ⟨rfl,hb1⟩;unfold QC S;have HB1:=jq (HB.out.here hb1);obtain⟨c0,c1⟩:=HB1.out.cells
 have f0:=HB1.out.frozen 0;have f1:=HB1.out.frozen 1;have hb01:=HBA.out.trans (hb1.mono HBA.out.size);go_wp2_with fail
 refine bodyPost_ret (v:=.agg #[.string ⟨res.n.toArray⟩,.string ⟨res.d.toArray⟩]) (by simp[results,Tryz.results60,go_sem,c0,c1]) rfl ?_;rw[HPO.out];exact⟨rfl,(hb01.setCell (p:=⟨w.1.size,0,none⟩) (Nat.le_refl _) _).setCell (p:=⟨w.1.size,1,none⟩) (Nat.le_refl _) _⟩
def Vf(f:Fr):Int:=if f.ok then 0 else 1
theorem Za0(f:Fr)(w:World)(hp:Pow w)(hf:f.Sz 20000):Calls Tryz.prog 43 #[QC f] w (Qq (Vf f) w):=by
 have hbA:Below w.1.size w (w.alloc (.cells #[.string ⟨f.n.toArray⟩,.string ⟨f.d.toArray⟩] 26)):=(Below.refl _ _).alloc (Nat.le_refl _) _;have HPA:=jq (fun W=>Vs f W (by have:=hf.2;omega));have HMD:=jq (fun W hp=>Zbl f.n f.dt W hp (by have:=hf.1;omega) (by have:=Fr.dt_len hf.2 (by omega);omega) (by rw[Fr.val_dt];exact f.dv_ne));rw[Fr.val_dt,show Rat.divInt (val f.n) f.dv=f.rat from rfl] at HMD;have HPO:=jq (show Qq (Vf f) w=fun e w'=>e=.returned (.int .i64 (Vf f))/\Below w.1.size w w' from rfl);have HCK:=jq (show Vf f=if f=Qf f.rat then 0 else 1 from rfl);generalize Qq (Vf f) w=post at*;generalize Qf f.rat=g at*;have HB:=jq (FrB.new w f);have HBA:=jq hbA;have HP:=jq hp;obtain⟨x0,x1⟩:=HB.out.cells
 clear hp hf hbA
 have HEQ:=jq (show Vf f=if(f.n==g.n)&&(f.d==g.d) then 0 else 1 by
  rw[HCK.out]
  by_cases h:f=g
  ·subst h;simp
  ·rw[if_neg h,if_neg];intro h2;simp at h2;exact h (Fr.ext_ h2.1 h2.2))
 clear HCK;unfold QC at*
 unfold S at*
 cases hn:(f.n==g.n)<;>cases hd:(f.d==g.d)
 all_goals
  rw[hn,hd] at HEQ;simp only[Bool.and_true,Bool.and_false,Bool.false_eq_true,if_true,if_false] at HEQ;go_enter Tryz.func43,Tryz.ntmps43
  go_upto_region 1 with (fail)
  generalize w.alloc _=W at*
  go_region_held3 (fun w'=>w'.cell? ⟨w.1.size,0,none⟩=some (.string ⟨f.n.toArray⟩)/\w'.cell? ⟨w.1.size,1,none⟩=some (.string ⟨f.d.toArray⟩))
   (first
     |exact(HB.out.here hz2).cells
     |exact(HB.out.here hz).cells
     |go_keep)
   (first
     |(go_at_call 101;refine(HPA.out _).mono ?_;rintro e w1 ⟨rfl,hb1⟩;unfold S;have hz:Below W.1.size W w1:=(Below.refl _ W).drew.trans hb1)
     |(go_at_call 100;refine(HMD.out _ (HP.out.here (HBA.out.trans (hz.mono HBA.out.size)))).mono ?_;rintro e w2 ⟨rfl,hb2⟩;unfold QC S;have hz2:=hz.trans (hb2.mono hz.size)))
  all_goals
   go_wp2_with fail
   rw[HPO.out,HEQ.out];exact⟨rfl,HBA.out.trans (hz2.mono HBA.out.size)⟩
end
section
theorem Zem(f:Fr)(hf:f.Sz 40000):Xb 126 #[QC f] (.tuple #[S (Qa f.rat.num),S (Qa f.rat.den)]):=by
 intro w hp;have H:=jq ((Kp.start hp).new w.1.size rfl #[.string ⟨f.n.toArray⟩,.string ⟨f.d.toArray⟩] 26);have HPA:=jq (fun W=>Vs f W (by have:=hf.2;omega));have HRD:=jq (fun W hp=>Zcq f.n f.dt W hp (by have:=hf.1;omega) (by have:=Fr.dt_len hf.2 (by omega);omega) (by rw[Fr.val_dt];exact f.dv_ne));rw[Fr.val_dt,show Rat.divInt (val f.n) f.dv=f.rat from rfl] at HRD;generalize Qa f.rat.num=qn at*;generalize Qa (f.rat.den:Int)=qd at*;have x0:(w.alloc (.cells #[.string ⟨f.n.toArray⟩,.string ⟨f.d.toArray⟩] 26)).cell? ⟨w.1.size,0,none⟩=some (.string ⟨f.n.toArray⟩):=H.out.c 0 0 rfl rfl;have x1:(w.alloc (.cells #[.string ⟨f.n.toArray⟩,.string ⟨f.d.toArray⟩] 26)).cell? ⟨w.1.size,1,none⟩=some (.string ⟨f.d.toArray⟩):=H.out.c 0 1 rfl rfl;clear hf hp;unfold QC at*
 unfold S at*
 go_enter Tryz.func126,Tryz.ntmps126
 go_wp2_with fail
 generalize w.alloc _=W at*;refine(HPA.out _).mono ?_;rintro e w1 ⟨rfl,hb⟩;unfold S;replace H:=jq (H.out.here hb);clear hb x0 x1;go_wp2_with fail
 refine(HRD.out _ H.out.po).mono ?_;rintro e w2 ⟨rfl,hb⟩;unfold S;replace H:=jq (H.out.here hb);go_wp2_with fail
 first|go_ret2|skip
 exact⟨rfl,H.out.bl⟩
theorem Zen(f:Fr)(hf:f.Sz 40000):Xb 113 #[QC f] (S (Qa (QK f.rat))):=by
 intro w hp;have H:=jq ((Kp.start hp).new w.1.size rfl #[.string ⟨f.n.toArray⟩,.string ⟨f.d.toArray⟩] 26);have HPA:=jq (fun W=>Vs f W (by have:=hf.2;omega));have hdv:val f.dt≠0:=by rw[Fr.val_dt];exact f.dv_ne
 have HDV:=jq (fun W hp=>(ZaD f.n f.dt W hp (by have:=hf.1;omega) (by have:=Fr.dt_len hf.2 (by omega);omega)).mono fun e w' h=>Vl hdv h);have HF:=jq (show Qa ((val f.n).fdiv (val f.dt))=Qa (QK f.rat) by rw[Fr.val_dt,Zbp _ _ f.dv_ne];rfl);rw[HF.out] at HDV;generalize Qa (QK f.rat)=res at*;have x0:(w.alloc (.cells #[.string ⟨f.n.toArray⟩,.string ⟨f.d.toArray⟩] 26)).cell? ⟨w.1.size,0,none⟩=some (.string ⟨f.n.toArray⟩):=H.out.c 0 0 rfl rfl;have x1:(w.alloc (.cells #[.string ⟨f.n.toArray⟩,.string ⟨f.d.toArray⟩] 26)).cell? ⟨w.1.size,1,none⟩=some (.string ⟨f.d.toArray⟩):=H.out.c 0 1 rfl rfl;clear hf hp hdv HF;unfold QC at*
 unfold S at*
 go_enter Tryz.func113,Tryz.ntmps113
 go_wp2_with fail
 generalize w.alloc _=W at*;refine(HPA.out _).mono ?_;rintro e w1 ⟨rfl,hb⟩;unfold S;replace H:=jq (H.out.here hb);clear hb x0 x1;go_wp2_with fail
 refine(HDV.out _ H.out.po).mono ?_;rintro e w2 ⟨rfl,hb⟩;replace H:=jq (H.out.here hb);go_wp2_with fail
 first|go_ret|skip
 exact⟨rfl,H.out.bl⟩
def nwL(f:Fr):Fr×Int:=if val f.d=0 then(Fr.zero,10) else(Qf (Rat.divInt (val f.n) (val f.d)),0)
theorem ZlD(f:Fr)(hf:f.Sz 50000):Xb 171 #[S f.n,S f.d] (.tuple #[QC (nwL f).1,.int .i64 (nwL f).2]):=by
 intro w hp;have H:=jq ((Kp.start hp).new w.1.size rfl #[.string ⟨#[]⟩,.string ⟨#[]⟩] 26);have HCM:=jq (fun W=>Xf f.d [] W (by have:=hf.2;omega) (by simp));rw[XK,Int.sub_zero] at HCM;have HMD:=jq (fun W hp h0=>Zbl f.n f.d W hp hf.1 hf.2 h0);have HNL:=jq (show nwL f=if val f.d=0 then(Fr.zero,10) else(Qf (Rat.divInt (val f.n) (val f.d)),0) from rfl);generalize nwL f=nl at*;generalize Qf (Rat.divInt (val f.n) (val f.d))=res at*;have HS:=jq (ZfO (val f.d));clear hf hp;unfold QC at*
 unfold S at*
 go_enter Tryz.func171,Tryz.ntmps171
 go_wp2_with fail
 generalize w.alloc _=W at*;refine(HCM.out _).mono ?_;rintro e w1 ⟨rfl,hb⟩;replace H:=jq (H.out.here hb);have c0:w1.cell? ⟨w.1.size,0,none⟩=some (.string ⟨#[]⟩):=H.out.c 0 0 rfl rfl;have c1:w1.cell? ⟨w.1.size,1,none⟩=some (.string ⟨#[]⟩):=H.out.c 0 1 rfl rfl;have f0:=H.out.f 0 0 rfl;have f1:=H.out.f 0 1 rfl;clear hb
 by_cases h0:val f.d=0
 ·have hs:(Qy (val f.d)==0)=true:=by rw[HS.out];simp[h0]
  rw[if_pos h0] at HNL;clear h0 HS HMD;go_wp2_with fail
  refine bodyPost_ret (v:=.tuple #[.agg #[.string ⟨#[]⟩,.string ⟨#[]⟩],.int .i64 10]) (by simp[results,Tryz.results171,go_sem,c0,c1]) rfl ?_;rw[HNL.out];exact⟨rfl,((H.out.set 0 0 rfl _).set 0 1 rfl _).bl⟩
 ·have hs:(Qy (val f.d)==0)=false:=by rw[HS.out];simp[h0]
  rw[if_neg h0] at HNL;have HMD2:=jq (fun W hp=>HMD.out W hp h0);clear h0 HS HMD c0 c1 f0 f1;go_wp2_with fail
  refine(HMD2.out _ H.out.po).mono ?_;rintro e w2 ⟨rfl,hb⟩;unfold QC S;replace H:=jq (H.out.here hb);have c0:w2.cell? ⟨w.1.size,0,none⟩=some (.string ⟨#[]⟩):=H.out.c 0 0 rfl rfl;have c1:w2.cell? ⟨w.1.size,1,none⟩=some (.string ⟨#[]⟩):=H.out.c 0 1 rfl rfl;have f0:=H.out.f 0 0 rfl;have f1:=H.out.f 0 1 rfl;go_wp2_with fail
  refine bodyPost_ret (v:=.tuple #[.agg #[.string ⟨res.n.toArray⟩,.string ⟨res.d.toArray⟩],.int .i64 0]) (by simp[results,Tryz.results171,go_sem,c0,c1]) rfl ?_;rw[HNL.out];exact⟨rfl,((H.out.set 0 0 rfl _).set 0 1 rfl _).bl⟩
theorem XV(a:List UInt8)(ha:a.length<=1000000000):Xb 57 #[S a] (.int .i64 (if a=Qa (val a) then 0 else 1)):=by
 intro w hp;have HC:=jq (Ja a w ha);rw[ZaC] at HC;have HEQ:=jq (show ∀t:List UInt8,(if a=t then(0:Int) else 1)=if(a==t)=true then 0 else 1 by intro t;by_cases h:a=t<;>simp[h]);rw[HEQ.out];clear HEQ ha;generalize Qa (val a)=t at*;unfold S at*
 cases h:(a==t)
 all_goals
  go_enter Tryz.func57,Tryz.ntmps57
  go_wp2_with fail
  refine HC.out.mono ?_;rintro e w1 ⟨rfl,hb⟩;go_wp2_with fail
  first|go_ret|skip
  exact⟨rfl,hb⟩
theorem Zia:val [50]=2:=by decide+kernel
theorem ZjW(a:List UInt8)(ha:a.length<=100000):Xb 167 #[S a] (.bool (decide ((val a).fmod 2=0))):=by
 intro w hp;have HDV:=jq ((ZaD a [50] w hp.pow ha (by simp)).mono fun e w' h=>Vl (by rw[Zia];omega) h);rw[Zia] at HDV
 have HE:=jq (show(Qa ((val a).fmod 2)==[])=decide ((val a).fmod 2=0) by
  rw[Bool.eq_iff_iff];simp only[beq_iff_eq,decide_eq_true_eq];exact XN)
 generalize Qa ((val a).fmod 2)=t at*;generalize decide ((val a).fmod 2=0)=bb at*;clear ha hp;unfold S at*
 go_enter Tryz.func167,Tryz.ntmps167
 go_wp2_with fail
 refine HDV.out.mono ?_;rintro e w1 ⟨rfl,hb⟩;go_wp2_with fail
 first|go_ret|skip
 exact⟨Qr ((show t.isEmpty=(t==[]) by cases t<;>rfl).trans HE.out),hb⟩
theorem ZfP(q:Rat):(Yr q=0/\JY q=QK q)\/(Yr q≠0/\Qy (Yr q+Yr q-q.den)= -1/\JY q=QK q)\/(Yr q≠0/\Qy (Yr q+Yr q-q.den)=0/\JY q=if(QK q).fmod 2=0 then QK q else QK q+1)\/(Yr q≠0/\Qy (Yr q+Yr q-q.den)=1/\JY q=QK q+1):=by
 have hb:=XL q;unfold JY Qy
 by_cases h0:Yr q=0
 ·exact .inl ⟨h0,by rw[if_neg];omega⟩
 ·rcases Int.lt_trichotomy (2*Yr q) q.den with h|h|h
  ·exact .inr (.inl ⟨h0,by rw[if_pos (by omega)],by rw[if_neg];omega⟩)
  ·refine .inr (.inr (.inl ⟨h0,by rw[if_neg (by omega),if_neg (by omega)],?_⟩))
   by_cases he:(QK q).fmod 2=0
   ·rw[if_pos he,if_neg];omega
   ·rw[if_neg he,if_pos (.inr ⟨h,he⟩)]
  ·exact .inr (.inr (.inr ⟨h0,by rw[if_neg (by omega),if_pos (by omega)],by rw[if_pos (.inl h)]⟩))
theorem Zeo(f:Fr)(hf:f.Sz 20000):Xb 124 #[QC f,.int .i64 1] (.tuple #[S (Qa (JY f.rat)),.int .i64 0]):=by
 intro w hp;have H:=jq ((Kp.start hp).new w.1.size rfl #[.string ⟨f.n.toArray⟩,.string ⟨f.d.toArray⟩] 26);have HPA:=jq (Zem f (hf.more (by omega)))
 have hsz:f.rat.num.natAbs<10^20000/\f.rat.den<10^20000:=by
  obtain⟨K,hK⟩:∃K:Nat,K=20000:=⟨_,rfl⟩
  rw[<-hK] at hf ⊢;exact Zae hf (by omega)
 have hd0:(f.rat.den:Int)≠0:=by have:=f.rat.den_nz;omega
 have hbd:=XL f.rat;have hlo:=Zc5 f.rat;have HRC:=jq (ZfP f.rat);generalize hq:f.rat=q at*;obtain⟨K,hK⟩:∃K:Nat,K=20000:=⟨_,rfl⟩
 rw[<-hK] at hsz;have hp1:10^K+1<10^(K+1):=by have:1<=10^K:=Nat.pow_pos (by omega);rw[Nat.pow_succ];have:10^1<=10^K:=Nat.pow_le_pow_right (by omega) (by omega);omega
 have hp2:10^(K+1)+1<10^(K+2):=by have:10^1<=10^(K+1):=Nat.pow_le_pow_right (by omega) (by omega);rw[Nat.pow_succ 10 (K+1)];omega
 have l1:=Qd (n:=q.num) (L:=K) hsz.1;have l2:=Qd (n:=(q.den:Int)) (L:=K) (by simpa using hsz.2);have l3:=Qd (n:=QK q) (L:=K+1) (by omega);have l4:=Qd (n:=Yr q) (L:=K) (by omega);have l5:=Qd (n:=Yr q+Yr q) (L:=K+1) (by omega);clear hp1 hp2 hlo hsz;have HDV:=jq (fun W hp=>(ZaD (Qa q.num) (Qa q.den) W hp (by omega) (by omega)).mono fun e w' h=>Vl (by rw[Qc];exact hd0) h);rw[Qc,Qc,show q.num.fdiv (q.den:Int)=QK q from rfl,show q.num.fmod (q.den:Int)=Yr q from rfl] at HDV;have HCN:=jq (fun W=>Xf (Qa q.num) [] W (by omega) (by simp));have HAR:=jq (fun W hp=>JG (Qa (Yr q)) (Qa (Yr q)) W hp (by omega) (by omega));rw[Qc] at HAR;have HCM:=jq (fun W=>Xf (Qa (Yr q+Yr q)) (Qa q.den) W (by omega) (by omega));rw[Qc,Qc] at HCM;have HAD:=jq (fun W hp=>JG (Qa (QK q)) [49] W hp (by omega) (by simp));rw[Qc,Yn] at HAD;have HEV:=jq (ZjW (Qa (QK q)) (by omega));rw[Qc] at HEV
 have HNZ:=jq (show Yr q≠0->(Qa (Yr q)==[])=false by
  intro h;rw[Bool.eq_false_iff];intro h2;exact h (XN.1 (eq_of_beq h2)))
 clear hf hp hq hK l1 l2 l3 l4 l5 hbd hd0;have x0:(w.alloc (.cells #[.string ⟨f.n.toArray⟩,.string ⟨f.d.toArray⟩] 26)).cell? ⟨w.1.size,0,none⟩=some (.string ⟨f.n.toArray⟩):=H.out.c 0 0 rfl rfl;have x1:(w.alloc (.cells #[.string ⟨f.n.toArray⟩,.string ⟨f.d.toArray⟩] 26)).cell? ⟨w.1.size,1,none⟩=some (.string ⟨f.d.toArray⟩):=H.out.c 0 1 rfl rfl;generalize Qy (val (Qa q.num)-val [])=sn at*;unfold QC at*
 unfold S at*
 go_enter Tryz.func124,Tryz.ntmps124
 go_wp2_with fail
 generalize w.alloc _=W at*;refine(HPA.out _ H.out.pw).mono ?_;rintro e w1 ⟨rfl,hb⟩;replace H:=jq (H.out.here hb);clear hb x0 x1;go_wp2_with fail
 refine(HDV.out _ H.out.po).mono ?_;rintro e w2 ⟨rfl,hb⟩;replace H:=jq (H.out.here hb);clear hb
 rcases HRC.out with ⟨hr,hres⟩|⟨hr,hs,hres⟩|⟨hr,hs,hres⟩|⟨hr,hs,hres⟩
 ·rw[hr] at HAR HCM ⊢;rw[show Qa (0:Int)=[] from rfl] at HAR ⊢;rw[show(0:Int)+0=0 from rfl,show Qa (0:Int)=[] from rfl] at HAR;rw[show(0:Int)+0=0 from rfl,show Qa (0:Int)=[] from rfl,show Qy (0-(q.den:Int))= -1 by unfold Qy;rw[if_pos];have:=q.den_pos;omega] at HCM;have HRES:=jq hres;clear hr hres HRC HNZ HAD;go_wp2_with fail
  refine(HCN.out _).mono ?_;rintro e w3 ⟨rfl,hb⟩;replace H:=jq (H.out.here hb);clear hb;go_wp2_with fail
  refine(HAR.out _ H.out.po).mono ?_;rintro e w4 ⟨rfl,hb⟩;replace H:=jq (H.out.here hb);clear hb
  try unfold S
  go_wp2_with fail
  refine(HCM.out _).mono ?_;rintro e w5 ⟨rfl,hb⟩;replace H:=jq (H.out.here hb);clear hb;go_wp2_with fail
  first|go_ret2|skip
  rw[HRES.out];exact⟨rfl,H.out.bl⟩
 all_goals
  have hne:=HNZ.out hr;rw[hs] at HCM;have HRES:=jq hres;clear hr hs hres HRC HNZ;go_wp2_with fail
  refine(HAD.out _ H.out.po).mono ?_;rintro e w2b ⟨rfl,hb⟩;replace H:=jq (H.out.here hb);clear hb
  try unfold S
  go_wp2_with fail
  refine(HCN.out _).mono ?_;rintro e w3 ⟨rfl,hb⟩;replace H:=jq (H.out.here hb);clear hb;go_wp2_with fail
  refine(HAR.out _ H.out.po).mono ?_;rintro e w4 ⟨rfl,hb⟩;replace H:=jq (H.out.here hb);clear hb
  try unfold S
  go_wp2_with fail
  refine(HCM.out _).mono ?_;rintro e w5 ⟨rfl,hb⟩;replace H:=jq (H.out.here hb);clear hb
 ·go_wp2_with fail
  first|go_ret2|skip
  rw[HRES.out];exact⟨rfl,H.out.bl⟩
 ·by_cases he:(QK q).fmod 2=0
  ·rw[if_pos he] at HRES;rw[show decide ((QK q).fmod 2=0)=true by simp[he]] at HEV;clear he;go_wp2_with fail
   refine(HEV.out _ H.out.pw).mono ?_;rintro e w6 ⟨rfl,hb⟩;replace H:=jq (H.out.here hb);clear hb;go_wp2_with fail
   first|go_ret2|skip
   rw[HRES.out];exact⟨rfl,H.out.bl⟩
  ·rw[if_neg he] at HRES;rw[show decide ((QK q).fmod 2=0)=false by simp[he]] at HEV;clear he;go_wp2_with fail
   refine(HEV.out _ H.out.pw).mono ?_;rintro e w6 ⟨rfl,hb⟩;replace H:=jq (H.out.here hb);clear hb;go_wp2_with fail
   first|go_ret2|skip
   rw[HRES.out];exact⟨rfl,H.out.bl⟩
 ·go_wp2_with fail
  first|go_ret2|skip
  rw[HRES.out];exact⟨rfl,H.out.bl⟩
end
section
theorem YQ(a:List UInt8)(ha:a.length<=100000):Xb 170 #[S a] (.bool (decide (val a<0))):=by
 intro w hp;have HC:=jq (Xf a [] w ha (by simp));rw[XK,Int.sub_zero] at HC;have HE:=jq (show decide (Qy (val a)<0)=decide (val a<0) by rw[Bool.eq_iff_iff,decide_eq_true_eq,decide_eq_true_eq];unfold Qy;(repeat' split)<;>omega);generalize Qy (val a)=z at*;generalize decide (val a<0)=bb at*;clear ha hp;unfold S at*
 go_enter Tryz.func170,Tryz.ntmps170
 go_wp2_with fail
 refine HC.out.mono ?_;rintro e w1 ⟨rfl,hb⟩;go_wp2_with fail
 first|go_ret|skip
 exact⟨Qr HE.out,hb⟩
theorem Zda(A:Option Addr)(n c:Nat)(ws:List (List UInt8))(w:World)(hp:Env w)(hs:XA w w.1.size A n ws)(hl:∀x∈ws,x.length<=50000)(hn:n<=9999):
 Calls Tryz.prog 204 #[.slice A n c] w (Qh (Qa (Qw ws)) w):=by
 have HPO:=jq (show Qh (Qa (Qw ws)) w=fun e w'=>e=.returned (S (Qa (Qw ws)))/\Below w.1.size w w' from rfl);generalize Qh (Qa (Qw ws)) w=post at*;have HS:=jq hs;have HL:=jq hl;have H0:=jq (Kp.start hp);have hnw:=hs.1;have HNW:=jq hnw;clear hs hl hp hnw;unfold S at*
 go_enter Tryz.func204,Tryz.ntmps204
 go_wp2_with fail
 go_loopw [3,8] (fun s i wr=>∃k:Nat,k<=n/\i=.int .i64 k/\s=.string ⟨(Qa (Qw (ws.take k))).toArray⟩/\Hid (Kp w [] wr)) (fun _ i _=>n-(intOf i).toNat)
 case atStart=>exact⟨0,Nat.zero_le _,rfl,rfl,H0⟩
 case round=>
  clear H0;obtain⟨k,hk,rfl,rfl,H⟩:=hrel
  by_cases hlt:k<n
  ·obtain⟨b,off,x,rfl,hb,hx,d0⟩:=(HS.out.below H.out.bl).st hlt
   have HA:=jq (JG (Qa (Qw (ws.take k))) x wr H.out.po (by have:=YP HL.out (by rw[<-HNW.out];omega) k;omega) (by have:=HL.out x (List.mem_of_getElem? hx);omega));rw[Qc,<-Zb3 hx] at HA;clear hx;unfold S at HA;go_wp2_with fail
   refine HA.out.mono ?_;rintro e w1 ⟨rfl,hb1⟩
   try unfold S
   go_wp2_with fail
   go_roundw
   case rel=>exact⟨k+1,by omega,by go_num,rfl,H.out.here hb1⟩
   case measure=>simp[intOf];omega
  ·have HE:=jq (show Qa (Qw (ws.take k))=Qa (Qw ws) by rw[List.take_of_length_le (by have:=HNW.out;omega)]);rw[HE.out];go_wp2_with fail
   first|go_ret|skip
   rw[HPO.out];exact⟨rfl,H.out.bl⟩
def Xa(t:List UInt8)(ws:List (List UInt8)):Int:=
 if ws=[] then 11 else if 1000<ws.length then 4 else if QJ t=false\/ws.any (fun x=> !QJ x||decide (val x<0))=true then 1 else if Qw ws=0 then 10 else 0
theorem ZfX(a:List UInt8)(ha:a.length<=100000):Xb 203 #[S a] (.bool (!QJ a||decide (val a<0))):=by
 intro w hp;have HC:=jq (XV a (by omega));have HN:=jq (YQ a ha);have H:=jq (Kp.start hp);generalize decide (val a<0)=bb at*;clear ha hp
 by_cases hc:a=Qa (val a)
 ·rw[if_pos hc] at HC;have HCB:=jq (show QJ a=true by unfold QJ;simpa using hc);rw[HCB.out];clear hc;unfold S at*
  go_enter Tryz.func203,Tryz.ntmps203
  go_wp2_with fail
  refine(HC.out _ H.out.pw).mono ?_;rintro e w1 ⟨rfl,hb⟩;replace H:=jq (H.out.here hb);clear hb;go_wp2_with fail
  refine(HN.out _ H.out.pw).mono ?_;rintro e w2 ⟨rfl,hb⟩;go_wp2_with fail
  first|go_ret|skip
  exact⟨rfl,(H.out.here hb).bl⟩
 ·rw[if_neg hc] at HC;have HCB:=jq (show QJ a=false by unfold QJ;simpa using hc);rw[HCB.out];clear hc;unfold S at*
  go_enter Tryz.func203,Tryz.ntmps203
  go_wp2_with fail
  refine(HC.out _ H.out.pw).mono ?_;rintro e w1 ⟨rfl,hb⟩;go_wp2_with fail
  first|go_ret|skip
  exact⟨rfl,(H.out.here hb).bl⟩
theorem Zdb(t:List UInt8)(A:Option Addr)(n c:Nat)(ws:List (List UInt8))(w:World)(hp:Env w)(hs:XA w w.1.size A n ws)(ht:t.length<=100000)(hl:∀x∈ws,x.length<=50000)(hn:n<=1000000000):
 Calls Tryz.prog 168 #[S t,.slice A n c] w (Qq (Xa t ws) w):=by
 have HPO:=jq (show Qq (Xa t ws) w=fun e w'=>e=.returned (.int .i64 (Xa t ws))/\Below w.1.size w w' from rfl);have HSC:=jq (show Xa t ws=if ws=[] then 11 else if 1000<ws.length then 4 else if QJ t=false\/ws.any (fun x=> !QJ x||decide (val x<0))=true then 1 else if Qw ws=0 then 10 else 0 from rfl);generalize Qq (Xa t ws) w=post at*;generalize Xa t ws=res at*;have HS:=jq hs;have HL:=jq hl;have H:=jq (Kp.start hp);have hnw:=hs.1;have HC:=jq (XV t (by omega));have HCF:=jq (fun W (hb:Below w.1.size w W)=>Zc9 203 #[] (fun x=> !QJ x||decide (val x<0)) A n c ws W (enters_of Tryz.func203 (by kernel_rfl) rfl) (fun W' x hx hb'=>ZfX x (by have:=hl x hx;omega) W' ((hp.here hb).here hb')) (hs.here hb) hn)
 have HCT:=jq (show(if t=Qa (val t) then(0:Int) else 1)=if QJ t=true then 0 else 1 by
  unfold QJ
  by_cases h:t=Qa (val t)
  ·rw[if_pos h,if_pos (decide_eq_true h)]
  ·rw[if_neg h,if_neg (by simpa using h)])
 rw[HCT.out] at HC;generalize QJ t=ct at*;generalize ws.any (fun x=> !QJ x||decide (val x<0))=an at*;have HNW:=jq hnw;clear hs hl hp ht HCT;unfold S at*
 rcases Nat.eq_zero_or_pos n with h0|h0
 ·subst h0;rw[if_pos (List.eq_nil_of_length_eq_zero hnw.symm)] at HSC;clear hnw hn;go_enter Tryz.func168,Tryz.ntmps168
  go_wp2_with fail
  first|go_ret|skip
  rw[HPO.out,HSC.out];exact⟨rfl,H.out.bl⟩
 rw[if_neg (fun e=>by rw[e] at hnw;simp at hnw;omega),<-hnw] at HSC;have hn0:((n:Int)==0)=false:=by simp;omega
 by_cases h1:1000<n
 ·rw[if_pos h1] at HSC;clear hnw;go_enter Tryz.func168,Tryz.ntmps168
  go_wp2_with fail
  first|go_ret|skip
  rw[HPO.out,HSC.out];exact⟨rfl,H.out.bl⟩
 rw[if_neg h1] at HSC;have hn1:¬1000<n:=h1;have HW:=jq (fun W (hb:Below w.1.size w W)=>Zda A n c ws W (H.out.pow.here hb) (HS.out.here hb) HL.out (by omega))
 have HE:=jq (show(Qa (Qw ws)==[])=decide (Qw ws=0) by
  rw[Bool.eq_iff_iff];simp only[beq_iff_eq,decide_eq_true_eq];exact XN)
 clear hnw h1
 cases ct with
 |false=>
  rw[if_pos (.inl rfl)] at HSC;clear HCF HW HE;go_enter Tryz.func168,Tryz.ntmps168
  go_wp2_with fail
  refine(HC.out _ H.out.pw).mono ?_;rintro e w1 ⟨rfl,hb⟩;go_wp2_with fail
  first|go_ret|skip
  rw[HPO.out,HSC.out];exact⟨rfl,(H.out.here hb).bl⟩
 |true=>
  cases an with
  |true=>
   rw[if_pos (.inr rfl)] at HSC;clear HW HE;go_enter Tryz.func168,Tryz.ntmps168
   go_wp2_with fail
   refine(HC.out _ H.out.pw).mono ?_;rintro e w1 ⟨rfl,hb⟩;replace H:=jq (H.out.here hb);clear hb;go_wp2_with fail
   refine(HCF.out _ H.out.bl).mono ?_;rintro e w2 ⟨rfl,hb⟩;go_wp2_with fail
   first|go_ret|skip
   rw[HPO.out,HSC.out];exact⟨rfl,(H.out.here hb).bl⟩
  |false=>
   rw[if_neg (by simp)] at HSC;generalize Qa (Qw ws)=tw at*;generalize hz:decide (Qw ws=0)=zz at*;have HZ:=jq hz;clear hz
   cases zz with
   |true=>
    rw[if_pos (by have:=HZ.out;simpa using this)] at HSC;have hx:(tw==[])=true:=HE.out;clear HE HZ;go_enter Tryz.func168,Tryz.ntmps168
    go_wp2_with fail
    refine(HC.out _ H.out.pw).mono ?_;rintro e w1 ⟨rfl,hb⟩;replace H:=jq (H.out.here hb);clear hb;go_wp2_with fail
    refine(HCF.out _ H.out.bl).mono ?_;rintro e w2 ⟨rfl,hb⟩;replace H:=jq (H.out.here hb);clear hb;go_wp2_with fail
    refine(HW.out _ H.out.bl).mono ?_;rintro e w3 ⟨rfl,hb⟩
    try unfold S
    go_wp2_with fail
    first|go_ret|skip
    rw[HPO.out,HSC.out];exact⟨rfl,(H.out.here hb).bl⟩
   |false=>
    rw[if_neg (by have:=HZ.out;simpa using this)] at HSC;have hx:(tw==[])=false:=HE.out;clear HE HZ;go_enter Tryz.func168,Tryz.ntmps168
    go_wp2_with fail
    refine(HC.out _ H.out.pw).mono ?_;rintro e w1 ⟨rfl,hb⟩;replace H:=jq (H.out.here hb);clear hb;go_wp2_with fail
    refine(HCF.out _ H.out.bl).mono ?_;rintro e w2 ⟨rfl,hb⟩;replace H:=jq (H.out.here hb);clear hb;go_wp2_with fail
    refine(HW.out _ H.out.bl).mono ?_;rintro e w3 ⟨rfl,hb⟩
    try unfold S
    go_wp2_with fail
    first|go_ret|skip
    rw[HPO.out,HSC.out];exact⟨rfl,(H.out.here hb).bl⟩
end
section
theorem ZmO(a b:Int)(bl:Nat)(w:World)(h0:w.cell? ⟨bl,0,none⟩=some (.int .i64 a))(h1:w.cell? ⟨bl,1,none⟩=some (.int .i64 b)):Calls Tryz.prog 241 #[.slice (some ⟨bl,0,none⟩) 2 2] w fun e w'=>e=.returned (.int .i64 (if a≠0 then a else b))/\Below w.1.size w w':=by
 have HR:=jq (show ∀r:Int,(a≠0->r=a)->(a=0->r=b)->(if a≠0 then a else b)=r by
  intro r h1 h2
  by_cases h:a=0
  ·rw[if_neg (by simp[h]),h2 h]
  ·rw[if_pos h,h1 h])
 generalize (if a≠0 then a else b)=res at*;have HB:=jq (Below.refl w.1.size w);go_enter Tryz.func241,Tryz.ntmps241
 go_wp2_with fail
 go_loop [8] (fun i=>∃k:Nat,k<=2/\i=.int .i64 k/\Hid (1<=k->a=0)/\Hid (2<=k->b=0)) (fun i=>2-(intOf i).toNat)
 case atStart=>exact⟨0,by omega,rfl,fun h=>by omega,fun h=>by omega⟩
 case round=>
  obtain⟨k,hk,rfl,HA,HBB⟩:=hrel
  by_cases hlt:k<2
  ·obtain rfl|rfl:k=0\/k=1:=by omega
   ·by_cases ha:a=0
    ·have hx:(a !=0)=false:=by simp[ha]
     have HA0:=jq ha;clear ha HA HBB hk hlt
     go_wp2
     go_round
     case rel=>exact⟨1,by omega,by go_num,fun _=>HA0.out,fun h=>by omega⟩
     case measure=>simp[intOf]
    ·have hx:(a !=0)=true:=by simp[ha]
     have HE:=jq (HR.out a (fun _=>rfl) (fun h=>absurd h ha));clear ha HA HBB hk hlt
     go_wp2
     go_ret
     exact⟨Qp HE.out.symm,HB.out⟩
   ·have HA0:=jq (HA.out (by omega))
    by_cases hb:b=0
    ·have hx:(b !=0)=false:=by simp[hb]
     have HB0:=jq hb;clear hb HA HBB hk hlt
     go_wp2
     go_round
     case rel=>exact⟨2,by omega,by go_num,fun _=>HA0.out,fun _=>HB0.out⟩
     case measure=>simp[intOf]
    ·have hx:(b !=0)=true:=by simp[hb]
     have HE:=jq (HR.out b (fun h=>absurd HA0.out h) (fun _=>rfl));clear hb HA HBB hk hlt
     go_wp2
     go_ret
     exact⟨Qp HE.out.symm,HB.out⟩
  ·obtain rfl:k=2:=by omega
   have HE:=jq (HR.out 0 (fun h=>absurd (HA.out (by omega)) h) (fun _=>(HBB.out (by omega)).symm));clear HA HBB hk hlt
   go_wp2
   go_ret
   exact⟨Qp HE.out.symm,HB.out⟩
theorem ZmP(a b:Int)(w:World):Calls Tryz.prog 241 #[.slice (some ⟨w.1.size,0,none⟩) 2 2] (w.alloc (.cells #[.int .i64 a,.int .i64 b] 3)) fun e w'=>e=.returned (.int .i64 (if a≠0 then a else b))/\Below w.1.size w w':=by
 have hb:=heap_alloc_new w (.cells #[.int .i64 a,.int .i64 b] 3);refine(ZmO a b w.1.size _ (cell_of_row _ _ 0 _ _ _ hb) (cell_of_row _ _ 1 _ _ _ hb)).mono ?_;rintro e w' ⟨he,h⟩;exact⟨he,((Below.refl w.1.size w).alloc (Nat.le_refl _) _).trans (h.mono (by simp))⟩
theorem Zj8(rs:List Int)(n R X:Nat)(i k:Nat)(hi:i<n)(hk:k<n)(_hn:n<=100000)(W:World)(hX:W.cell? ⟨X,0,none⟩=some (.slice (some ⟨R,0,none⟩) n n))(hR:∀j,j<n->W.cell? ⟨R,j,none⟩=some (.string ⟨(Qa (rs.getD j 0)).toArray⟩))(hl:∀j,(Qa (rs.getD j 0)).length<=100000):
 Calls Tryz.prog 240 (#[.int .i64 i,.int .i64 k]++#[.pointer (some ⟨X,0,none⟩)]) W fun e w'=>e=.returned (.int .i64 (ZiO rs i k))/\Below W.1.size W w':=by
 have HCM:=jq (fun w=>Xf (Qa (rs.getD k 0)) (Qa (rs.getD i 0)) w (hl k) (hl i));rw[Qc,Qc] at HCM;have HCC:=jq (fun w=>Tryz.cmp_Compare_int i k w);have HRE:=jq (show(if Qy (rs.getD k 0-rs.getD i 0)≠0 then Qy (rs.getD k 0-rs.getD i 0) else Lib.compareInt i k)=ZiO rs i k from rfl);have HON:=jq (fun w=>ZmP (Qy (rs.getD k 0-rs.getD i 0)) (Lib.compareInt i k) w);rw[HRE.out] at HON;generalize ZiO rs i k=res at*;have z1:=hR i hi;have z2:=hR k hk
 have HZ:=jq (show ∀w',Below W.1.size W w'->w'.cell? ⟨X,0,none⟩=some (.slice (some ⟨R,0,none⟩) n n)/\w'.cell? ⟨R,i,none⟩=some (.string ⟨(Qa (rs.getD i 0)).toArray⟩)/\w'.cell? ⟨R,k,none⟩=some (.string ⟨(Qa (rs.getD k 0)).toArray⟩) from
  fun w' hb=>⟨(hb.cell (World.block_lt_of_cell? W _ hX)).trans hX,(hb.cell (World.block_lt_of_cell? W _ z1)).trans z1,(hb.cell (World.block_lt_of_cell? W _ z2)).trans z2⟩)
 generalize Qy (rs.getD k 0-rs.getD i 0)=aa at*;generalize Lib.compareInt (i:Int) (k:Int)=bb at*;generalize Qa (rs.getD i 0)=ti at*;generalize Qa (rs.getD k 0)=tk at*;clear hR hl HRE;have HB:=jq (Below.refl W.1.size W);have i1:(0:Int)<=(i:Int):=by omega
 have i2:(i:Int)<(n:Int):=by omega
 have k1:(0:Int)<=(k:Int):=by omega
 have k2:(k:Int)<(n:Int):=by omega
 show Calls _ _ #[.int .i64 i,.int .i64 k,.pointer (some ⟨X,0,none⟩)] _ _
 go_enter Tryz.func240,Tryz.ntmps240
 go_upto_region 1 with (fail)
 go_region_held3 (fun w'=>w'.cell? ⟨X,0,none⟩=some (.slice (some ⟨R,0,none⟩) n n)/\w'.cell? ⟨R,i,none⟩=some (.string ⟨ti.toArray⟩)/\w'.cell? ⟨R,k,none⟩=some (.string ⟨tk.toArray⟩))
  (first
    |exact HZ.out _ hz2
    |exact HZ.out _ hz
    |exact HZ.out _ (HB.out.alloc (Nat.le_refl _) _)
    |go_keep)
  (first
    |(go_at_call 58;refine(HCM.out _).mono ?_;rintro e w1 ⟨rfl,hb1⟩;have hz:Below W.1.size W w1:=HB.out.drew.trans hb1)
    |(go_at_call 242;refine(HCC.out _).mono ?_;rintro e w2 ⟨rfl,rfl⟩)
    |(go_at_call 241;refine(HON.out _).mono ?_;rintro e w3 ⟨rfl,hb3⟩;have hz2:Below W.1.size W w3:=hz.trans (hb3.mono hz.size)))
 all_goals
  go_wp2_with fail
  first|go_ret|skip
  exact⟨rfl,hz2⟩
end
section
def F2(f:Fr):List Value:=[S f.n,S f.d]
theorem Zhr(f:Fr):(F2 f).length=2:=rfl
abbrev Frs(w:World)(B:Nat)(A:Option Addr)(n:Nat)(xs:List Fr):Prop:=Sl F2 2 w B A n xs
theorem Sl.fr{w:World}{B:Nat}{A:Option Addr}{n:Nat}{xs:List Fr}{i:Nat}(h:Frs w B A n xs)(hi:i<n):
 ∃b off x,A=some ⟨b,off,none⟩/\b<B/\xs[i]?=some x/\w.cell? ⟨b,off+i*2,none⟩=some (.string ⟨x.n.toArray⟩)/\w.cell? ⟨b,off+i*2+1,none⟩=some (.string ⟨x.d.toArray⟩):=by
 obtain⟨b,off,x,hA,hb,hx,hc⟩:=h.at_ hi
 exact⟨b,off,x,hA,hb,hx,hc 0 _ rfl,hc 1 _ rfl⟩
def Zge(p:Fr->Bool)(xs:List Fr):Int:=match xs.findIdx? p with|some i=>(i:Int)|none=> -1
theorem Zku{p:Fr->Bool}{xs:List Fr}{j:Nat}{r:Fr}(h:xs[j]?=some r)(hr:p r=true)(hn:(xs.take j).any p=false):Zge p xs=j:=by
 unfold Zge
 have:xs.findIdx? p=some j:=by
  rw[List.findIdx?_eq_some_iff_getElem];obtain⟨hj,rfl⟩:=List.getElem?_eq_some_iff.1 h
  refine⟨hj,hr,fun i hi=> ?_⟩;rw[List.any_eq_false] at hn;have:=hn xs[i] (by rw[List.mem_take_iff_getElem];exact⟨i,by omega,rfl⟩)
  simpa using this
 rw[this]
theorem Zex{p:Fr->Bool}{xs:List Fr}(hn:xs.any p=false):Zge p xs= -1:=by
 unfold Zge
 have:xs.findIdx? p=none:=by
  rw[List.findIdx?_eq_none_iff];intro x hx;rw[List.any_eq_false] at hn;simpa using hn x hx
 rw[this]
theorem Zgf(p:Fr->Bool)(xs:List Fr):decide (0<=Zge p xs)=xs.any p:=by
 cases h:xs.any p with
 |false=>rw[Zex h];rfl
 |true=>
  rw[List.any_eq_true] at h;obtain⟨x,hx,hp⟩:=h
  unfold Zge
  cases hf:xs.findIdx? p with
  |none=>rw[List.findIdx?_eq_none_iff] at hf;rw[hf x hx] at hp;cases hp
  |some i=>simp
theorem Zi3{p:Fr->Bool}{xs:List Fr}{j:Nat}{r:Fr}(h:xs[j]?=some r)(hn:(xs.take j).any p=false)(hr:p r=false):(xs.take (j+1)).any p=false:=by
 obtain⟨hj,rfl⟩:=List.getElem?_eq_some_iff.1 h
 rw[List.take_succ_eq_append_getElem hj,List.any_append,hn];simp[hr]
theorem Zhs(g:Nat)(p:Fr->Bool)(A:Option Addr)(n c:Nat)(xs:List Fr)(w:World)(eg:∀args w,(callFunc g args).run Tryz.prog w=.ok (.enter g args) w)
 (hp:∀(W:World) (x:Fr),x∈xs->Below w.1.size w W->Calls Tryz.prog g #[QC x] W fun e w'=>e=.returned (.bool (p x))/\Below W.1.size W w') (hr:Frs w w.1.size A n xs) (hn:n<=1000000000):
 Calls Tryz.prog 107 #[.slice A n c,.func (.func g) #[] #[]] w fun e w'=>e=.returned (.int .i64 (Zge p xs))/\Below w.1.size w w':=by
 have HPR:=jq hp;have HR:=jq hr;clear hp hr;go_enter Tryz.func107,Tryz.ntmps107
 go_wp2
 go_loopw [5,8] (fun _ i wr=>∃j:Nat,j<=n/\i=.int .i64 j/\Hid ((xs.take j).any p=false)/\Below w.1.size w wr) (fun _ i _=>n-(intOf i).toNat)
 case atStart=>exact⟨0,Nat.zero_le _,rfl,by show _=_;simp,Below.refl _ _⟩
 case round=>
  obtain⟨j,hj,rfl,HN,hb⟩:=hrel
  by_cases hlt:j<n
  ·obtain⟨b,off,r,rfl,hbl,hxj,d0,d1⟩:=(HR.out.below hb).fr hlt
   have HX:=jq hxj;have hcall:=HPR.out wr r (List.mem_of_getElem? hxj) hb;unfold QC S at hcall;clear hxj;have HC:=jq hcall;clear hcall
   cases hq:p r with
   |true=>
    rw[hq] at HC;have HQ:=jq hq;clear hq;go_wp2_with (go_at_fn g;refine(HC.out).mono ?_;rintro e w' ⟨rfl,hb'⟩)
    go_ret
    exact⟨Qp (Zku HX.out HQ.out HN.out).symm,hb.trans (hb'.mono hb.size)⟩
   |false=>
    rw[hq] at HC;have HQ:=jq hq;clear hq;go_wp2_with (go_at_fn g;refine(HC.out).mono ?_;rintro e w' ⟨rfl,hb'⟩)
    go_roundw
    case rel=>exact⟨j+1,by omega,by go_num,Zi3 HX.out HN.out HQ.out,hb.trans (hb'.mono hb.size)⟩
    case measure=>simp[intOf];omega
  ·go_wp2
   go_ret
   exact⟨Qp (Zex (by have:=HN.out;rwa [List.take_of_length_le (by have:=HR.out.1;omega)] at this)).symm,hb⟩
theorem Zd9(g:Nat)(p:Fr->Bool)(A:Option Addr)(n c:Nat)(xs:List Fr)(w:World)(eg:∀args w,(callFunc g args).run Tryz.prog w=.ok (.enter g args) w)
 (hp:∀(W:World) (x:Fr),x∈xs->Below w.1.size w W->Calls Tryz.prog g #[QC x] W fun e w'=>e=.returned (.bool (p x))/\Below W.1.size W w') (hr:Frs w w.1.size A n xs) (hn:n<=1000000000):
 Calls Tryz.prog 53 #[.slice A n c,.func (.func g) #[] #[]] w fun e w'=>e=.returned (.bool (xs.any p))/\Below w.1.size w w':=by
 have H:=jq (Zhs g p A n c xs w eg hp hr hn);clear hp eg hr;have e:=Zgf p xs;generalize Zge p xs=z at*;have E:=jq e;clear e;go_enter Tryz.func53,Tryz.ntmps53
 go_wp2_with (go_at_call 107;refine(H.out).mono ?_;rintro e w' ⟨rfl,hb'⟩)
 go_ret
 exact⟨Qr E.out,hb'⟩
end
section
end
section
end
section
structure Fr4 (w:World) (p:Nat) (f g h:Fr) (W:World):Prop where
 a:FrB W p f
 b:FrB W (p+1) g
 c:FrB W (p+1+1) h
 d:FrB W (p+1+1+1) Fr.zero
 bl:Below w.1.size w W
 hp:w.1.size<=p
theorem Fr4.here{w:World}{p:Nat}{f g h:Fr}{W W':World}(H:Fr4 w p f g h W)(hb:Below W.1.size W W'):Fr4 w p f g h W':=⟨H.a.here hb,H.b.here hb,H.c.here hb,H.d.here hb,H.bl.trans (hb.mono H.bl.size),H.hp⟩
theorem Fr4.new(w:World)(f g h:Fr):Fr4 w w.1.size f g h ((((w.alloc (.cells #[.string ⟨f.n.toArray⟩,.string ⟨f.d.toArray⟩] 26)).alloc (.cells #[.string ⟨g.n.toArray⟩,.string ⟨g.d.toArray⟩] 26)).alloc (.cells #[.string ⟨h.n.toArray⟩,.string ⟨h.d.toArray⟩] 26)).alloc (.cells #[.string ⟨#[]⟩,.string ⟨#[]⟩] 26)):=by
 refine⟨(((FrB.new w f).alloc _).alloc _).alloc _,?_,?_,?_,((((Below.refl _ _).alloc (Nat.le_refl _) _).alloc (by simp) _).alloc (by simp;omega) _).alloc (by simp;omega) _,Nat.le_refl _⟩
 ·have:=((FrB.new (w.alloc (.cells #[.string ⟨f.n.toArray⟩,.string ⟨f.d.toArray⟩] 26)) g).alloc (.cells #[.string ⟨h.n.toArray⟩,.string ⟨h.d.toArray⟩] 26)).alloc (.cells #[.string ⟨#[]⟩,.string ⟨#[]⟩] 26)
  simp only[World.size_alloc] at this;exact this
 ·have:=(FrB.new ((w.alloc (.cells #[.string ⟨f.n.toArray⟩,.string ⟨f.d.toArray⟩] 26)).alloc (.cells #[.string ⟨g.n.toArray⟩,.string ⟨g.d.toArray⟩] 26)) h).alloc (.cells #[.string ⟨#[]⟩,.string ⟨#[]⟩] 26)
  simp only[World.size_alloc] at this;exact this
 ·have:=FrB.new (((w.alloc (.cells #[.string ⟨f.n.toArray⟩,.string ⟨f.d.toArray⟩] 26)).alloc (.cells #[.string ⟨g.n.toArray⟩,.string ⟨g.d.toArray⟩] 26)).alloc (.cells #[.string ⟨h.n.toArray⟩,.string ⟨h.d.toArray⟩] 26)) Fr.zero
  simp only[World.size_alloc] at this;exact this
theorem Fr4.held{w:World}{p:Nat}{f g h:Fr}{W:World}(H:Fr4 w p f g h W):W.cell? ⟨p,0,none⟩=some (.string ⟨f.n.toArray⟩)/\W.cell? ⟨p,1,none⟩=some (.string ⟨f.d.toArray⟩)/\W.cell? ⟨p+1,0,none⟩=some (.string ⟨g.n.toArray⟩)/\W.cell? ⟨p+1,1,none⟩=some (.string ⟨g.d.toArray⟩)/\W.cell? ⟨p+1+1,0,none⟩=some (.string ⟨h.n.toArray⟩)/\W.cell? ⟨p+1+1,1,none⟩=some (.string ⟨h.d.toArray⟩):=
 ⟨H.a.cells.1,H.a.cells.2,H.b.cells.1,H.b.cells.2,H.c.cells.1,H.c.cells.2⟩
theorem FrB.set2{w:World}{p:Nat}{f:Fr}(h:FrB w p f)(g:Fr):FrB ((w.setCell ⟨p,0,none⟩ (.string ⟨g.n.toArray⟩)).setCell ⟨p,1,none⟩ (.string ⟨g.d.toArray⟩)) p g:=by
 unfold FrB at h ⊢;rw[heap_setCell_same _ p 1 _ 26 _ (heap_setCell_same w p 0 _ 26 _ h)];rfl
end
section
end
section
end
section
structure FrT (w:World) (p:Nat) (f g h:Fr) (W:World):Prop where
 a:FrB W p f
 b:FrB W (p+1) g
 c:FrB W (p+1+1) h
 bl:Below w.1.size w W
 hp:w.1.size<=p
theorem FrT.here{w:World}{p:Nat}{f g h:Fr}{W W':World}(H:FrT w p f g h W)(hb:Below W.1.size W W'):FrT w p f g h W':=⟨H.a.here hb,H.b.here hb,H.c.here hb,H.bl.trans (hb.mono H.bl.size),H.hp⟩
theorem FrT.new(w:World)(f g h:Fr):FrT w w.1.size f g h (((w.alloc (.cells #[.string ⟨f.n.toArray⟩,.string ⟨f.d.toArray⟩] 26)).alloc (.cells #[.string ⟨g.n.toArray⟩,.string ⟨g.d.toArray⟩] 26)).alloc (.cells #[.string ⟨h.n.toArray⟩,.string ⟨h.d.toArray⟩] 26)):=by
 refine⟨((FrB.new w f).alloc _).alloc _,?_,?_,(((Below.refl _ _).alloc (Nat.le_refl _) _).alloc (by simp) _).alloc (by simp;omega) _,Nat.le_refl _⟩
 ·have:=(FrB.new (w.alloc (.cells #[.string ⟨f.n.toArray⟩,.string ⟨f.d.toArray⟩] 26)) g).alloc (.cells #[.string ⟨h.n.toArray⟩,.string ⟨h.d.toArray⟩] 26)
  simp only[World.size_alloc] at this;exact this
 ·have:=FrB.new ((w.alloc (.cells #[.string ⟨f.n.toArray⟩,.string ⟨f.d.toArray⟩] 26)).alloc (.cells #[.string ⟨g.n.toArray⟩,.string ⟨g.d.toArray⟩] 26)) h
  simp only[World.size_alloc] at this;exact this
end
end Go.Proofs.YtpnncoinlopndaaGreatDoor
