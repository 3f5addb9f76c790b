/- . -/
import Derived.Test.YtpnncoinlopndaaGreatDoorQGMp22
import Derived.Test.YtpnncoinlopndaaGreatDoorQGMp23
set_option maxRecDepth 20000
set_option maxHeartbeats 1000000
namespace Go.Proofs.YtpnncoinlopndaaGreatDoor
open Go.Lib renaming hid→jq
open Go.RowKit Go.Shelf
section
def Fr.raw(f:Fr):Fr:=⟨if val f.d<0 then Qa (-val f.n) else f.n,if val f.d=0 then[49] else if val f.d<0 then Qa (-val f.d) else f.d⟩
theorem Fr.raw_pos(f:Fr):0<val f.raw.d:=by
 unfold Fr.raw;simp only
 split
 ·rw[Yn];omega
 ·split
  ·rw[Qc];omega
  ·omega
theorem Fr.raw_dv(f:Fr):f.raw.dv=val f.raw.d:=by
 have:=f.raw_pos
 unfold Fr.dv;rw[if_neg (by omega)]
theorem Fr.raw_rat(f:Fr):Rat.divInt (val f.raw.n) (val f.raw.d)=f.rat:=by
 unfold Fr.raw Fr.rat Fr.dv;simp only
 by_cases h0:val f.d=0
 ·rw[if_pos h0,if_pos h0,if_neg (by omega),Yn]
 ·rw[if_neg h0,if_neg h0]
  by_cases h1:val f.d<0
  ·rw[if_pos h1,if_pos h1,Qc,Qc,Rat.neg_divInt_neg]
  ·rw[if_neg h1,if_neg h1]
theorem Fr.raw_rat'(f:Fr):f.raw.rat=f.rat:=by
 have:=f.raw_rat
 rw[<-f.raw_dv] at this;exact this
theorem Fr.raw_sz{f:Fr}{L:Nat}(h:f.Sz L)(_hL:1<=L):f.raw.Sz (L+1):=by
 have h1:=Zad f.n;have h2:=Zad f.d;have h3:=h.1;have h4:=h.2;have e1:=Qd (n:= -val f.n) (L:=f.n.length) (by omega);have e2:=Qd (n:= -val f.d) (L:=f.d.length) (by omega);unfold Fr.raw
 constructor
 ·simp only
  split<;>omega
 ·simp only
  split
  ·simp
  ·split<;>omega
theorem Zcl(a:List UInt8)(w:World)(ha:a.length<=100000000):Calls Tryz.prog 145 #[S a] w fun e w'=>e=.returned (.bool (decide (val a=0)))/\w=w':=by
 have HC:=jq (Xi a [] w ha (by simp));rw[XK,Int.sub_zero] at HC;have HE:=jq (ZfO (val a));generalize Qy (val a)=z at*;generalize decide (val a=0)=bb at*;clear ha;unfold S at*
 go_enter Tryz.func145,Tryz.ntmps145
 go_wp2_with fail
 refine HC.out.mono ?_;rintro e w1 ⟨rfl,rfl⟩;go_wp2_with fail
 go_ret
 exact⟨Qr HE.out,rfl⟩
theorem ZdO(w:World):Calls Tryz.prog 105 #[] w fun e w'=>e=.returned (S [49])/\w=w':=by
 have HC:=jq (ZbN 1 (by omega) (by omega) w);rw[ZcT] at HC;unfold S at*
 go_enter Tryz.func105,Tryz.ntmps105
 go_wp2_with fail
 refine HC.out.mono ?_;rintro e w1 ⟨rfl,rfl⟩;go_wp2_with fail
 go_ret
 exact⟨rfl,rfl⟩
theorem Ym(f:Fr)(w:World)(hf:f.Sz 100000):Calls Tryz.prog 106 #[QC f] w (QS f.raw.n f.raw.d w):=by
 have hbA:Below w.1.size w (w.alloc (.cells #[.string ⟨f.n.toArray⟩,.string ⟨f.d.toArray⟩] 26)):=(Below.refl _ _).alloc (Nat.le_refl _) _;have HZ:=jq (fun W=>Zcl f.d W (by have:=hf.2;omega));have HO:=jq (fun W=>ZdO W);have HCM:=jq (fun W=>Xi f.d [] W (by have:=hf.2;omega) (by simp));rw[XK,Int.sub_zero] at HCM;have HN1:=jq (fun W=>ZbL f.n W (by have:=hf.1;omega));have HN2:=jq (fun W=>ZbL f.d W (by have:=hf.2;omega));have HPO:=jq (show QS f.raw.n f.raw.d w=fun e w'=>e=.returned (.tuple #[S f.raw.n,S f.raw.d])/\Below w.1.size w w' from rfl);have HB:=jq (FrB.new w f);have HBA:=jq hbA;generalize QS f.raw.n f.raw.d w=post at*;obtain⟨c0,c1⟩:=HB.out.cells
 clear hbA hf;unfold Fr.raw at HPO;unfold S QC at*
 unfold S;go_enter Tryz.func106,Tryz.ntmps106
 go_wp2_with fail
 generalize w.alloc _=W at*
 by_cases h0:val f.d=0
 ·rw[show decide (val f.d=0)=true by simp[h0]] at HZ;rw[if_pos h0,if_neg (by omega)] at HPO;clear h0 HCM HN1 HN2;refine(HZ.out _).mono ?_;rintro e w1 ⟨rfl,rfl⟩;go_wp2_with fail
  go_quiet ((go_at_call 105;exact Calls.quiet_of_same ((HO.out _).mono (fun e w' h=>And.intro h.1 h.2.symm))))
  go_wp2_with fail
  rw[HPO.out];exact⟨rfl,bdN HBA.out _⟩
 ·rw[show decide (val f.d=0)=false by simp[h0]] at HZ;rw[if_neg h0] at HPO;refine(HZ.out _).mono ?_;rintro e w1 ⟨rfl,rfl⟩
  by_cases h1:val f.d<0
  ·rw[show Qy (val f.d)= -1 by unfold Qy;rw[if_pos h1]] at HCM;rw[if_pos h1,if_pos h1] at HPO;clear h0 h1;go_wp2_with fail
   refine(HCM.out _).mono ?_;rintro e w1 ⟨rfl,rfl⟩;go_wp2_with fail
   go_quiet (first|(go_at_call_of 92 (Value.string ⟨f.n.toArray⟩);exact Calls.quiet_of_same ((HN1.out _).mono (fun e w' h=>And.intro h.1 h.2.symm)))|(go_at_call_of 92 (Value.string ⟨f.d.toArray⟩);exact Calls.quiet_of_same ((HN2.out _).mono (fun e w' h=>And.intro h.1 h.2.symm))))
   go_wp2_with fail
   rw[HPO.out];exact⟨rfl,bdN HBA.out _⟩
  ·rw[show Qy (val f.d)=1 by unfold Qy;rw[if_neg h1,if_pos (by omega)]] at HCM;rw[if_neg h1,if_neg h1] at HPO;clear h0 h1;go_wp2_with fail
   refine(HCM.out _).mono ?_;rintro e w1 ⟨rfl,rfl⟩;go_wp2_with fail
   go_quiet (fail)
   go_wp2_with fail
   rw[HPO.out];exact⟨rfl,bdN HBA.out _⟩
theorem ZdP(a b:List UInt8)(w:World)(ha:a.length<=100000)(hb:b.length<=100000)(h0:val b≠0):Calls Tryz.prog 147 #[S a,S b] w (Qh (Qa ((val a).fdiv (val b))) w):=by
 have HD:=jq (ZdN a b w ha hb);have HPO:=jq (show Qh (Qa ((val a).fdiv (val b))) w=fun e w'=>e=.returned (S (Qa ((val a).fdiv (val b))))/\Below w.1.size w w' from rfl);generalize Qh (Qa ((val a).fdiv (val b))) w=post at*;unfold S at*
 go_enter Tryz.func147,Tryz.ntmps147
 go_wp2_with fail
 refine HD.out.mono ?_;intro e w1 h1;obtain⟨rfl,hb1⟩:=Vl h0 h1
 clear h1;go_wp2_with fail
 first|go_ret|skip
 rw[HPO.out];exact⟨rfl,hb1⟩
end
section
theorem ZhM{w W:World}{p:Nat}(h:Below w.1.size w W)(hp:w.1.size<p)(u v t:Value):Below w.1.size w (((W.setCell ⟨p,1,none⟩ u).setCell ⟨w.1.size,0,none⟩ v).setCell ⟨w.1.size,1,none⟩ t):=
 ((h.setCell (p:=⟨p,1,none⟩) (Nat.le_of_lt hp) _).setCell (p:=⟨w.1.size,0,none⟩) (Nat.le_refl _) _).setCell (p:=⟨w.1.size,1,none⟩) (Nat.le_refl _) _
theorem YD(n d:List UInt8)(w:World)(hn:n.length<=50000)(hd:d.length<=50000)(hd0:0<val d):
 Calls Tryz.prog 104 #[S n,S d] w (Qg (Qf (Rat.divInt (val n) (val d))) w):=by
 have HZ:=jq (fun W=>Zcl n W (by omega));have HGC:=jq (fun W=>Zlc n d W (by omega) (by omega));have HGL:=jq (Zh8 (val n) (d:=d) (by omega));have HGP:=jq (Zh3 (val n) (val d) (by omega));have HR1:=jq (Zh1 (val n) (val d) hd0);have HR2:=jq (Zh2 (val n) (val d) hd0);have HQ0:=jq (show val n=0->QC (Qf (Rat.divInt (val n) (val d)))=QC Fr.zero by intro h;rw[h,Rat.zero_divInt];rfl)
 have HQL:=jq (show(Qa (Rat.divInt (val n) (val d)).den).length<=50001 by
  obtain⟨K,hK⟩:∃K:Nat,K=50000:=⟨_,rfl⟩
  rw[<-hK] at hd;have:=Qd (n:=((Rat.divInt (val n) (val d)).den:Int)) (L:=K) (Nat.lt_of_le_of_lt (by have:=ZaQ (val n) (val d) (by omega);simpa using this) (Qz hd))
  omega)
 have HB:=jq (show FrB (w.alloc (.cells #[.string ⟨#[]⟩,.string ⟨#[]⟩] 26)) w.1.size Fr.zero from FrB.new w Fr.zero);have HBA:=jq (show Below w.1.size w (w.alloc (.cells #[.string ⟨#[]⟩,.string ⟨#[]⟩] 26)) from(Below.refl _ _).alloc (Nat.le_refl _) _);have HPO:=jq (show Qg (Qf (Rat.divInt (val n) (val d))) w=fun e w'=>e=.returned (QC (Qf (Rat.divInt (val n) (val d))))/\Below w.1.size w w' from rfl);have HN:=jq hn;have HD:=jq hd;generalize Qg (Qf (Rat.divInt (val n) (val d))) w=post at*;generalize Rat.divInt (val n) (val d)=q at*;generalize Int.gcd (val n) (val d)=g at*;have HV1:=jq (fun W=>ZdP n (Qa (g:Int)) W (by have:=HN.out;omega) (by have:=HGL.out;have:=HD.out;omega) (by rw[Qc];have:=HGP.out;omega));have HV2:=jq (fun W=>ZdP d (Qa (g:Int)) W (by have:=HD.out;omega) (by have:=HGL.out;have:=HD.out;omega) (by rw[Qc];have:=HGP.out;omega));rw[Qc,HR1.out] at HV1;rw[Qc,HR2.out] at HV2;have HO:=jq (fun W=>ZdO W);have HCM:=jq (fun W=>Xi (Qa (q.den:Int)) [49] W (by have:=HQL.out;omega) (by simp));rw[Qc,Yn] at HCM;clear hn hd hd0 HR1 HR2 HGP HGL HN HD HQL;unfold S at*
 go_enter Tryz.func104,Tryz.ntmps104
 go_wp2_with fail
 generalize w.alloc _=W at*
 by_cases h0:val n=0
 ·rw[show decide (val n=0)=true by simp[h0]] at HZ;have HF:=jq (HQ0.out h0);obtain⟨c0,c1⟩:=HB.out.cells
  have f0:=HB.out.frozen 0;have f1:=HB.out.frozen 1;clear h0 HQ0 HV1 HV2 HCM HGC HO;refine(HZ.out _).mono ?_;rintro e w1 ⟨rfl,rfl⟩;go_wp2_with fail
  refine bodyPost_ret (v:=.agg #[.string ⟨#[]⟩,.string ⟨#[]⟩]) (by simp[results,Tryz.results104,go_sem,c0,c1]) rfl ?_;rw[HPO.out,HF.out];exact⟨rfl,(HBA.out.setCell (p:=⟨w.1.size,0,none⟩) (Nat.le_refl _) _).setCell (p:=⟨w.1.size,1,none⟩) (Nat.le_refl _) _⟩
 ·rw[show decide (val n=0)=false by simp[h0]] at HZ;clear h0 HQ0;refine(HZ.out _).mono ?_;rintro e w1 ⟨rfl,rfl⟩;go_wp2_with fail
  refine(HGC.out _).mono ?_;rintro e w2 ⟨rfl,hb2⟩;have HB2:=jq (HB.out.here hb2);unfold S;go_wp2_with fail
  refine(HV1.out _).mono ?_;rintro e w3 ⟨rfl,hb3⟩;have HB3:=jq (HB2.out.here hb3);unfold S;go_wp2_with fail
  refine(HV2.out _).mono ?_;rintro e w4 ⟨rfl,hb4⟩;have HB4:=jq (HB3.out.here hb4);unfold S;have hb03:=HBA.out.trans ((hb2.trans ((hb3.trans (hb4.mono hb3.size)).mono hb2.size)).mono HBA.out.size);have hbX:=(Below.refl w4.1.size w4).alloc (Nat.le_refl _) (.cells #[.string ⟨(Qa q.num).toArray⟩,.string ⟨(Qa (q.den:Int)).toArray⟩] 26);have HB5:=jq (HB4.out.here hbX);have HG5:=jq (FrB.new w4 ⟨Qa q.num,Qa (q.den:Int)⟩);have HLT:=jq (show w.1.size<w4.1.size from HB4.out.lt);have HBX:=jq (hb03.trans (hbX.mono hb03.size));clear HB HB2 HB3 HB4 hb2 hb3 hb4 hbX HZ HGC HV1 HV2 hb03;go_upto_region 5 with (fail)
  obtain⟨g0,g1⟩:=HG5.out.cells
  have gf1:=HG5.out.frozen 1;obtain⟨c0,c1⟩:=HB5.out.cells
  have f0:=HB5.out.frozen 0;have f1:=HB5.out.frozen 1;simp only at g0 g1
  generalize w4.alloc _=W5 at*;have hlt:=HLT.out;have hne1:w.1.size≠w4.1.size:=by omega
  have hne2:w4.1.size≠w.1.size:=by omega
  by_cases h1:q.den=1
  ·have HF:=jq (show QC (Qf q)=.agg #[.string ⟨(Qa q.num).toArray⟩,.string ⟨#[]⟩] by unfold QC Qf;simp only[if_pos h1];rfl);rw[show Qy ((q.den:Int)-1)=0 by rw[h1];rfl] at HCM;clear h1
   go_quiet (first
    |(go_at_call 105;exact Calls.quiet_of_same ((HO.out _).mono (fun e w' h=>And.intro h.1 h.2.symm)))
    |(go_at_call 62;exact Calls.quiet_of_same ((HCM.out _).mono (fun e w' h=>And.intro h.1 h.2.symm))))
   go_wp2_with fail
   refine bodyPost_ret (v:=.agg #[.string ⟨(Qa q.num).toArray⟩,.string ⟨#[]⟩]) (by simp[results,Tryz.results104,go_sem,c0,c1]) rfl ?_;rw[HPO.out,HF.out];exact⟨rfl,ZhM (bdN HBX.out _) HLT.out _ _ _⟩
  ·have HF:=jq (show QC (Qf q)=.agg #[.string ⟨(Qa q.num).toArray⟩,.string ⟨(Qa q.den).toArray⟩] by unfold QC Qf;simp only[if_neg h1];rfl);rw[show Qy ((q.den:Int)-1)=1 by unfold Qy;rw[if_neg (by have:=q.den_pos;omega),if_pos (by have:=q.den_pos;omega)]] at HCM;clear h1;generalize Qa (q.den:Int)=t at*
   go_quiet (first
    |(go_at_call 105;exact Calls.quiet_of_same ((HO.out _).mono (fun e w' h=>And.intro h.1 h.2.symm)))
    |(go_at_call 62;exact Calls.quiet_of_same ((HCM.out _).mono (fun e w' h=>And.intro h.1 h.2.symm))))
   go_wp2_with fail
   refine bodyPost_ret (v:=.agg #[.string ⟨(Qa q.num).toArray⟩,.string ⟨t.toArray⟩]) (by simp[results,Tryz.results104,go_sem,c0,c1]) rfl ?_;rw[HPO.out,HF.out];exact⟨rfl,((bdN HBX.out _).setCell (p:=⟨w.1.size,0,none⟩) (Nat.le_refl _) _).setCell (p:=⟨w.1.size,1,none⟩) (Nat.le_refl _) _⟩
structure Fr2 (w:World) (p:Nat) (f h:Fr) (W:World):Prop where
 a:FrB W p f
 b:FrB W (p+1) h
 bl:Below w.1.size w W
theorem Fr2.here{w:World}{p:Nat}{f h:Fr}{W W':World}(H:Fr2 w p f h W)(hb:Below W.1.size W W'):Fr2 w p f h W':=⟨H.a.here hb,H.b.here hb,H.bl.trans (hb.mono H.bl.size)⟩
theorem Fr2.held{w:World}{p:Nat}{f h:Fr}{W:World}(H:Fr2 w p f h W):W.cell? ⟨p,0,none⟩=some (.string ⟨f.n.toArray⟩)/\W.cell? ⟨p,1,none⟩=some (.string ⟨f.d.toArray⟩)/\W.cell? ⟨p+1,0,none⟩=some (.string ⟨h.n.toArray⟩)/\W.cell? ⟨p+1,1,none⟩=some (.string ⟨h.d.toArray⟩):=
 ⟨H.a.cells.1,H.a.cells.2,H.b.cells.1,H.b.cells.2⟩
theorem Fr2.new(w:World)(f h:Fr):Fr2 w w.1.size f h ((w.alloc (.cells #[.string ⟨f.n.toArray⟩,.string ⟨f.d.toArray⟩] 26)).alloc (.cells #[.string ⟨h.n.toArray⟩,.string ⟨h.d.toArray⟩] 26)):=by
 refine⟨(FrB.new w f).alloc _,?_,((Below.refl _ _).alloc (Nat.le_refl _) _).alloc (by simp) _⟩;have:=FrB.new (w.alloc (.cells #[.string ⟨f.n.toArray⟩,.string ⟨f.d.toArray⟩] 26)) h
 simp only[World.size_alloc] at this;exact this
theorem Fr2.newz(w:World)(f:Fr):Fr2 w w.1.size f Fr.zero ((w.alloc (.cells #[.string ⟨f.n.toArray⟩,.string ⟨f.d.toArray⟩] 26)).alloc (.cells #[.string ⟨#[]⟩,.string ⟨#[]⟩] 26)):=Fr2.new w f Fr.zero
theorem VK(f:Fr)(w:World)(hf:f.Sz 40003):Calls Tryz.prog 103 #[QC f] w (Qg (Qf f.rat) w):=by
 have HR:=jq (fun W=>Ym f W (hf.more (by omega)));obtain⟨fn,fd⟩:=f.raw_sz hf (by omega)
 have HRD:=jq (fun W=>YD f.raw.n f.raw.d W (by omega) (by omega) f.raw_pos);rw[f.raw_rat] at HRD;have HPO:=jq (show Qg (Qf f.rat) w=fun e w'=>e=.returned (QC (Qf f.rat))/\Below w.1.size w w' from rfl);generalize Qg (Qf f.rat) w=post at*;generalize Qf f.rat=res at*;have H2:=jq (Fr2.newz w f);obtain⟨x0,x1⟩:=H2.out.a.cells
 clear hf fn fd;generalize f.raw=x at*;unfold QC at*
 unfold S at*
 go_enter Tryz.func103,Tryz.ntmps103
 go_wp2_with fail
 generalize (w.alloc (.cells #[.string ⟨f.n.toArray⟩,.string ⟨f.d.toArray⟩] 26)).alloc (.cells #[.string ⟨#[]⟩,.string ⟨#[]⟩] 26)=W at*;refine(HR.out _).mono ?_;rintro e w1 ⟨rfl,hb1⟩;unfold S;have H3:=jq (H2.out.here hb1);go_wp2_with fail
 refine(HRD.out _).mono ?_;rintro e w2 ⟨rfl,hb2⟩;unfold QC S;have H9:=jq (H3.out.here hb2);have z0:=H9.out.b.cells.1;have z1:=H9.out.b.cells.2;have f0:=H9.out.b.frozen 0;have f1:=H9.out.b.frozen 1;go_wp2_with fail
 refine bodyPost_ret (v:=.agg #[.string ⟨res.n.toArray⟩,.string ⟨res.d.toArray⟩]) (by simp[results,Tryz.results103,go_sem,z0,z1]) rfl ?_;rw[HPO.out];exact⟨rfl,(H9.out.bl.setCell (p:=⟨w.1.size+1,0,none⟩) (by simp only;omega) _).setCell (p:=⟨w.1.size+1,1,none⟩) (by simp only;omega) _⟩
theorem JW(f:Fr)(w:World)(hf:f.Sz 40000):Calls Tryz.prog 48 #[QC f] w (Qq (Vf f) w):=by
 have HC:=jq (fun W=>VK f W (hf.more (by omega)));have HPO:=jq (show Qq (Vf f) w=fun e w'=>e=.returned (.int .i64 (Vf f))/\Below w.1.size w w' from rfl);have HCK:=jq (show Vf f=if f=Qf f.rat then 0 else 1 from rfl);generalize Qq (Vf f) w=post at*;generalize Qf f.rat=g at*;have HB:=jq (FrB.new w f);have HBA:=jq (show Below w.1.size w (w.alloc (.cells #[.string ⟨f.n.toArray⟩,.string ⟨f.d.toArray⟩] 26)) from(Below.refl _ _).alloc (Nat.le_refl _) _);obtain⟨x0,x1⟩:=HB.out.cells
 clear hf
 have HEQ:=jq (show Vf f=if(f.n==g.n)&&(f.d==g.d) then 0 else 1 by
  rw[HCK.out]
  by_cases h:f=g
  ·subst h;simp
  ·rw[if_neg h,if_neg];intro h2;simp at h2;exact h (Fr.ext_ h2.1 h2.2))
 clear HCK;unfold QC at*
 unfold S at*
 cases hn:(f.n==g.n)<;>cases hd:(f.d==g.d)
 all_goals
  rw[hn,hd] at HEQ;simp only[Bool.and_true,Bool.and_false,Bool.false_eq_true,if_true,if_false] at HEQ;go_enter Tryz.func48,Tryz.ntmps48
  go_upto_region 1 with (fail)
  generalize w.alloc _=W at*
  go_region_held3 (fun w'=>w'.cell? ⟨w.1.size,0,none⟩=some (.string ⟨f.n.toArray⟩)/\w'.cell? ⟨w.1.size,1,none⟩=some (.string ⟨f.d.toArray⟩))
   (first
     |exact(HB.out.here hz).cells
     |go_keep)
   (first
     |(go_at_call 103;refine(HC.out _).mono ?_;rintro e w1 ⟨rfl,hb1⟩;unfold QC S;have hz:Below W.1.size W w1:=(Below.refl _ W).drew.trans hb1))
  all_goals
   go_wp2_with fail
   rw[HPO.out,HEQ.out];exact⟨rfl,HBA.out.trans (hz.mono HBA.out.size)⟩
def ZcP(f:Fr):Fr×Int:=if val f.d=0 then(Fr.zero,10) else(Qf f.rat,0)
theorem ZdQ(f:Fr)(w:World)(hf:f.Sz 40003):Calls Tryz.prog 138 #[S f.n,S f.d] w (ZaE (ZcP f) w):=by
 have HZ:=jq (fun W=>Zcl f.d W (by have:=hf.2;omega));have HC:=jq (fun W=>VK f W hf);have HPO:=jq (show ZaE (ZcP f) w=fun e w'=>e=.returned (.tuple #[QC (ZcP f).1,.int .i64 (ZcP f).2])/\Below w.1.size w w' from rfl);have HNL:=jq (show ZcP f=if val f.d=0 then(Fr.zero,10) else(Qf f.rat,0) from rfl);generalize ZaE (ZcP f) w=post at*;generalize ZcP f=nl at*;generalize Qf f.rat=res at*;have HB:=jq (show FrB (w.alloc (.cells #[.string ⟨#[]⟩,.string ⟨#[]⟩] 26)) w.1.size Fr.zero from FrB.new w Fr.zero);have HBA:=jq (show Below w.1.size w (w.alloc (.cells #[.string ⟨#[]⟩,.string ⟨#[]⟩] 26)) from(Below.refl _ _).alloc (Nat.le_refl _) _);clear hf;unfold QC at*
 unfold S at*
 go_enter Tryz.func138,Tryz.ntmps138
 go_wp2_with fail
 generalize w.alloc _=W at*
 by_cases h0:val f.d=0
 ·rw[show decide (val f.d=0)=true by simp[h0]] at HZ;rw[if_pos h0] at HNL;obtain⟨c0,c1⟩:=HB.out.cells
  have f0:=HB.out.frozen 0;have f1:=HB.out.frozen 1;clear h0 HC;refine(HZ.out _).mono ?_;rintro e w1 ⟨rfl,rfl⟩;go_wp2_with fail
  refine bodyPost_ret (v:=.tuple #[.agg #[.string ⟨#[]⟩,.string ⟨#[]⟩],.int .i64 10]) (by simp[results,Tryz.results138,go_sem,c0,c1]) rfl ?_;rw[HPO.out,HNL.out];exact⟨rfl,(HBA.out.setCell (p:=⟨w.1.size,0,none⟩) (Nat.le_refl _) _).setCell (p:=⟨w.1.size,1,none⟩) (Nat.le_refl _) _⟩
 ·rw[show decide (val f.d=0)=false by simp[h0]] at HZ;rw[if_neg h0] at HNL;clear h0;refine(HZ.out _).mono ?_;rintro e w1 ⟨rfl,rfl⟩;go_wp2_with fail
  refine(HC.out _).mono ?_;rintro e w2 ⟨rfl,hb2⟩;unfold QC S;have HB2:=jq (HB.out.here hb2);have hb02:=HBA.out.trans (hb2.mono HBA.out.size);obtain⟨c0,c1⟩:=HB2.out.cells
  have f0:=HB2.out.frozen 0;have f1:=HB2.out.frozen 1;go_wp2_with fail
  refine bodyPost_ret (v:=.tuple #[.agg #[.string ⟨res.n.toArray⟩,.string ⟨res.d.toArray⟩],.int .i64 0]) (by simp[results,Tryz.results138,go_sem,c0,c1]) rfl ?_;rw[HPO.out,HNL.out];exact⟨rfl,(hb02.setCell (p:=⟨w.1.size,0,none⟩) (Nat.le_refl _) _).setCell (p:=⟨w.1.size,1,none⟩) (Nat.le_refl _) _⟩
theorem Zml(x:Fr)(h:0<val x.d):Rat.divInt (val (Qa (-val x.n))) (val x.d)= -x.rat:=by
 have e1:x.rat=Rat.divInt (val x.n) (val x.d):=by unfold Fr.rat Fr.dv;rw[if_neg (by omega)]
 rw[e1,Qc,Rat.neg_divInt]
theorem Zld(f:Fr)(w:World)(hf:f.Sz 40000):Calls Tryz.prog 118 #[QC f] w (Qg (Qf (-f.rat)) w):=by
 have HR:=jq (fun W=>Ym f W (hf.more (by omega)));obtain⟨fn,fd⟩:=f.raw_sz hf (by omega)
 have HN:=jq (fun W=>ZbL f.raw.n W (by omega));have HRD:=jq (fun W=>YD (Qa (-val f.raw.n)) f.raw.d W (by have:=Qd (n:= -val f.raw.n) (L:=f.raw.n.length) (by have:=Zad f.raw.n;omega);omega) (by omega) f.raw_pos);rw[Zml _ f.raw_pos,f.raw_rat'] at HRD;have HPO:=jq (show Qg (Qf (-f.rat)) w=fun e w'=>e=.returned (QC (Qf (-f.rat)))/\Below w.1.size w w' from rfl);generalize Qg (Qf (-f.rat)) w=post at*;generalize Qf (-f.rat)=res at*;have H2:=jq (Fr2.newz w f);obtain⟨x0,x1⟩:=H2.out.a.cells
 clear hf fn fd;generalize f.raw=x at*;unfold QC at*
 unfold S at*
 go_enter Tryz.func118,Tryz.ntmps118
 go_wp2_with fail
 generalize (w.alloc (.cells #[.string ⟨f.n.toArray⟩,.string ⟨f.d.toArray⟩] 26)).alloc (.cells #[.string ⟨#[]⟩,.string ⟨#[]⟩] 26)=W at*;refine(HR.out _).mono ?_;rintro e w1 ⟨rfl,hb1⟩
 try unfold S
 have H3:=jq (H2.out.here hb1);go_wp2_with fail
 refine(HN.out _).mono ?_;rintro e w1 ⟨rfl,rfl⟩
 try unfold S
 go_wp2_with fail
 refine(HRD.out _).mono ?_;rintro e w2 ⟨rfl,hb2⟩;unfold QC S;have H9:=jq (H3.out.here hb2);have z0:=H9.out.b.cells.1;have z1:=H9.out.b.cells.2;have f0:=H9.out.b.frozen 0;have f1:=H9.out.b.frozen 1;go_wp2_with fail
 refine bodyPost_ret (v:=.agg #[.string ⟨res.n.toArray⟩,.string ⟨res.d.toArray⟩]) (by simp[results,Tryz.results118,go_sem,z0,z1]) rfl ?_;rw[HPO.out];exact⟨rfl,(H9.out.bl.setCell (p:=⟨w.1.size+1,0,none⟩) (by simp only;omega) _).setCell (p:=⟨w.1.size+1,1,none⟩) (by simp only;omega) _⟩
end
section
theorem XJ{a b:List UInt8}{L:Nat}(ha:a.length<=L)(hb:b.length<=L):(Qa (val a*val b)).length<=L+L+1:=Qd (QB (Qz ha) (Qz hb))
theorem ZdR{a b c d:List UInt8}{L:Nat}(ha:a.length<=L)(hb:b.length<=L)(hc:c.length<=L)(hd:d.length<=L):(Qa (val a*val b+val c*val d)).length<=L+L+1+1:=
 Qd (Zha (QB (Qz ha) (Qz hb)) (QB (Qz hc) (Qz hd)))
theorem Zmm(x y:Fr)(hx:0<val x.d)(hy:0<val y.d):Qy (val (Qa (val x.n*val y.d))-val (Qa (val y.n*val x.d)))=Xe x.rat y.rat:=by
 have e1:x.rat=Rat.divInt (val x.n) (val x.d):=by unfold Fr.rat Fr.dv;rw[if_neg (by omega)]
 have e2:y.rat=Rat.divInt (val y.n) (val y.d):=by unfold Fr.rat Fr.dv;rw[if_neg (by omega)]
 rw[e1,e2,Zcp _ _ hx hy,Qc,Qc]
theorem Zmn(x y:Fr)(hx:0<val x.d)(hy:0<val y.d):Rat.divInt (val (Qa (val x.n*val y.d+val y.n*val x.d))) (val (Qa (val x.d*val y.d)))=x.rat+y.rat:=by
 have e1:x.dv=val x.d:=by unfold Fr.dv;rw[if_neg (by omega)]
 have e2:y.dv=val y.d:=by unfold Fr.dv;rw[if_neg (by omega)]
 rw[ZlB,e1,e2,Qc,Qc]
theorem Zmo(x y:Fr)(hx:0<val x.d)(hy:0<val y.d):Rat.divInt (val (Qa (val x.n*val y.n))) (val (Qa (val x.d*val y.d)))=x.rat*y.rat:=by
 have e1:x.dv=val x.d:=by unfold Fr.dv;rw[if_neg (by omega)]
 have e2:y.dv=val y.d:=by unfold Fr.dv;rw[if_neg (by omega)]
 rw[ZeS,e1,e2,Qc,Qc]
theorem Zle(f h:Fr)(w:World)(hf:f.Sz 20000)(hh:h.Sz 20000):Calls Tryz.prog 117 #[QC f,QC h] w (Qg (Qf (f.rat+h.rat)) w):=by
 have HR1:=jq (fun W=>Ym f W (hf.more (by omega)));have HR2:=jq (fun W=>Ym h W (hh.more (by omega)));obtain⟨fn,fd⟩:=f.raw_sz hf (by omega)
 obtain⟨hn,hd⟩:=h.raw_sz hh (by omega)
 have fp:=f.raw_pos;have hp:=h.raw_pos;have HM1:=jq (fun W=>Yb f.raw.n h.raw.d W (by omega) (by omega));have HM2:=jq (fun W=>Yb h.raw.n f.raw.d W (by omega) (by omega));have HM3:=jq (fun W=>Yb f.raw.d h.raw.d W (by omega) (by omega));have HAD:=jq (fun W=>VH (Qa (val f.raw.n*val h.raw.d)) (Qa (val h.raw.n*val f.raw.d)) W (by have:=XJ fn hd;omega) (by have:=XJ hn fd;omega));rw[Qc,Qc] at HAD;have HRD:=jq (fun W=>YD (Qa (val f.raw.n*val h.raw.d+val h.raw.n*val f.raw.d)) (Qa (val f.raw.d*val h.raw.d)) W (by have:=ZdR fn hd hn fd;omega) (by have:=XJ fd hd;omega) (by rw[Qc];exact Int.mul_pos fp hp));rw[Zmn _ _ fp hp,f.raw_rat',h.raw_rat'] at HRD;have HPO:=jq (show Qg (Qf (f.rat+h.rat)) w=fun e w'=>e=.returned (QC (Qf (f.rat+h.rat)))/\Below w.1.size w w' from rfl);generalize Qg (Qf (f.rat+h.rat)) w=post at*;have H3:=jq (Fr3.new w f h);obtain⟨x0,x1,y0,y1⟩:=H3.out.held
 generalize Qf (f.rat+h.rat)=res at*;clear fn fd hn hd fp hp;generalize f.raw=x at*;generalize h.raw=y at*;clear hf hh;unfold QC at*
 unfold S at*
 go_enter Tryz.func117,Tryz.ntmps117
 go_wp2_with fail
 generalize (((w.alloc (.cells #[.string ⟨f.n.toArray⟩,.string ⟨f.d.toArray⟩] 26)).alloc (.cells #[.string ⟨h.n.toArray⟩,.string ⟨h.d.toArray⟩] 26)).alloc (.cells #[.string ⟨#[]⟩,.string ⟨#[]⟩] 26))=W0 at*;refine(HR1.out _).mono ?_;rintro e w1 ⟨rfl,hb1⟩;unfold S;have H4:=jq (H3.out.here hb1);clear x0 x1 y0 y1 HR1 H3;obtain⟨x0,x1,y0,y1⟩:=H4.out.held
 go_wp2_with fail
 refine(HR2.out _).mono ?_;rintro e w2 ⟨rfl,hb2⟩;unfold S;have H5:=jq (H4.out.here hb2);clear x0 x1 y0 y1 HR2 H4 hb1 hb2;go_wp2_with fail
 refine(HM1.out _).mono ?_;rintro e w3 ⟨rfl,hb⟩
 try unfold S
 have H6:=jq (H5.out.here hb);clear hb H5;go_wp2_with fail
 refine(HM2.out _).mono ?_;rintro e w4 ⟨rfl,hb⟩
 try unfold S
 have H7:=jq (H6.out.here hb);clear hb H6;go_wp2_with fail
 refine(HAD.out _).mono ?_;rintro e w5 ⟨rfl,hb⟩
 try unfold S
 have H8:=jq (H7.out.here hb);clear hb H7;go_wp2_with fail
 refine(HM3.out _).mono ?_;rintro e w6 ⟨rfl,hb⟩
 try unfold S
 have H8b:=jq (H8.out.here hb);clear hb H8;go_wp2_with fail
 refine(HRD.out _).mono ?_;rintro e w9 ⟨rfl,hb⟩;unfold QC S;have H9:=jq (H8b.out.here hb);have z0:=H9.out.c.cells.1;have z1:=H9.out.c.cells.2;have f0:=H9.out.c.frozen 0;have f1:=H9.out.c.frozen 1;go_wp2_with fail
 refine bodyPost_ret (v:=.agg #[.string ⟨res.n.toArray⟩,.string ⟨res.d.toArray⟩]) (by simp[results,Tryz.results117,go_sem,z0,z1]) rfl ?_;rw[HPO.out];exact⟨rfl,(H9.out.bl.setCell (p:=⟨w.1.size+1+1,0,none⟩) (by simp only;omega) _).setCell (p:=⟨w.1.size+1+1,1,none⟩) (by simp only;omega) _⟩
theorem ZbS(f h:Fr)(w:World)(hf:f.Sz 20000)(hh:h.Sz 20000):Calls Tryz.prog 56 #[QC f,QC h] w (Qg (Qf (f.rat*h.rat)) w):=by
 have HR1:=jq (fun W=>Ym f W (hf.more (by omega)));have HR2:=jq (fun W=>Ym h W (hh.more (by omega)));obtain⟨fn,fd⟩:=f.raw_sz hf (by omega)
 obtain⟨hn,hd⟩:=h.raw_sz hh (by omega)
 have fp:=f.raw_pos;have hp:=h.raw_pos;have HM1:=jq (fun W=>Yb f.raw.n h.raw.n W (by omega) (by omega));have HM3:=jq (fun W=>Yb f.raw.d h.raw.d W (by omega) (by omega));have HRD:=jq (fun W=>YD (Qa (val f.raw.n*val h.raw.n)) (Qa (val f.raw.d*val h.raw.d)) W (by have:=XJ fn hn;omega) (by have:=XJ fd hd;omega) (by rw[Qc];exact Int.mul_pos fp hp));rw[Zmo _ _ fp hp,f.raw_rat',h.raw_rat'] at HRD;have HPO:=jq (show Qg (Qf (f.rat*h.rat)) w=fun e w'=>e=.returned (QC (Qf (f.rat*h.rat)))/\Below w.1.size w w' from rfl);generalize Qg (Qf (f.rat*h.rat)) w=post at*;have H3:=jq (Fr3.new w f h);obtain⟨x0,x1,y0,y1⟩:=H3.out.held
 generalize Qf (f.rat*h.rat)=res at*;clear fn fd hn hd fp hp;generalize f.raw=x at*;generalize h.raw=y at*;clear hf hh;unfold QC at*
 unfold S at*
 go_enter Tryz.func56,Tryz.ntmps56
 go_wp2_with fail
 generalize (((w.alloc (.cells #[.string ⟨f.n.toArray⟩,.string ⟨f.d.toArray⟩] 26)).alloc (.cells #[.string ⟨h.n.toArray⟩,.string ⟨h.d.toArray⟩] 26)).alloc (.cells #[.string ⟨#[]⟩,.string ⟨#[]⟩] 26))=W0 at*;refine(HR1.out _).mono ?_;rintro e w1 ⟨rfl,hb1⟩;unfold S;have H4:=jq (H3.out.here hb1);clear x0 x1 y0 y1 HR1 H3;obtain⟨x0,x1,y0,y1⟩:=H4.out.held
 go_wp2_with fail
 refine(HR2.out _).mono ?_;rintro e w2 ⟨rfl,hb2⟩;unfold S;have H5:=jq (H4.out.here hb2);clear x0 x1 y0 y1 HR2 H4 hb1 hb2;go_wp2_with fail
 refine(HM1.out _).mono ?_;rintro e w3 ⟨rfl,hb⟩
 try unfold S
 have H6:=jq (H5.out.here hb);clear hb H5;go_wp2_with fail
 refine(HM3.out _).mono ?_;rintro e w6 ⟨rfl,hb⟩
 try unfold S
 have H8b:=jq (H6.out.here hb);clear hb H6;go_wp2_with fail
 refine(HRD.out _).mono ?_;rintro e w9 ⟨rfl,hb⟩;unfold QC S;have H9:=jq (H8b.out.here hb);have z0:=H9.out.c.cells.1;have z1:=H9.out.c.cells.2;have f0:=H9.out.c.frozen 0;have f1:=H9.out.c.frozen 1;go_wp2_with fail
 refine bodyPost_ret (v:=.agg #[.string ⟨res.n.toArray⟩,.string ⟨res.d.toArray⟩]) (by simp[results,Tryz.results56,go_sem,z0,z1]) rfl ?_;rw[HPO.out];exact⟨rfl,(H9.out.bl.setCell (p:=⟨w.1.size+1+1,0,none⟩) (by simp only;omega) _).setCell (p:=⟨w.1.size+1+1,1,none⟩) (by simp only;omega) _⟩
theorem Xd(f h:Fr)(w:World)(hf:f.Sz 20000)(hh:h.Sz 20000):Calls Tryz.prog 50 #[QC f,QC h] w (Qq (Xe f.rat h.rat) w):=by
 have HR1:=jq (fun W=>Ym f W (hf.more (by omega)));have HR2:=jq (fun W=>Ym h W (hh.more (by omega)));obtain⟨fn,fd⟩:=f.raw_sz hf (by omega)
 obtain⟨hn,hd⟩:=h.raw_sz hh (by omega)
 have fp:=f.raw_pos;have hp:=h.raw_pos;have HM1:=jq (fun W=>Yb f.raw.n h.raw.d W (by omega) (by omega));have HM3:=jq (fun W=>Yb h.raw.n f.raw.d W (by omega) (by omega));have HCM:=jq (fun W=>Xi (Qa (val f.raw.n*val h.raw.d)) (Qa (val h.raw.n*val f.raw.d)) W (by have:=XJ fn hd;omega) (by have:=XJ hn fd;omega));rw[Zmm _ _ fp hp,f.raw_rat',h.raw_rat'] at HCM;have HPO:=jq (show Qq (Xe f.rat h.rat) w=fun e w'=>e=.returned (.int .i64 (Xe f.rat h.rat))/\Below w.1.size w w' from rfl);generalize Qq (Xe f.rat h.rat) w=post at*;have H3:=jq (Fr2.new w f h);obtain⟨x0,x1,y0,y1⟩:=H3.out.held
 generalize Xe f.rat h.rat=res at*;clear fn fd hn hd fp hp;generalize f.raw=x at*;generalize h.raw=y at*;clear hf hh;unfold QC at*
 unfold S at*
 go_enter Tryz.func50,Tryz.ntmps50
 go_wp2_with fail
 generalize ((w.alloc (.cells #[.string ⟨f.n.toArray⟩,.string ⟨f.d.toArray⟩] 26)).alloc (.cells #[.string ⟨h.n.toArray⟩,.string ⟨h.d.toArray⟩] 26))=W0 at*;refine(HR1.out _).mono ?_;rintro e w1 ⟨rfl,hb1⟩;unfold S;have H4:=jq (H3.out.here hb1);clear x0 x1 y0 y1 HR1 H3;obtain⟨x0,x1,y0,y1⟩:=H4.out.held
 go_wp2_with fail
 refine(HR2.out _).mono ?_;rintro e w2 ⟨rfl,hb2⟩;unfold S;have H5:=jq (H4.out.here hb2);clear x0 x1 y0 y1 HR2 H4 hb1 hb2;go_wp2_with fail
 refine(HM1.out _).mono ?_;rintro e w3 ⟨rfl,hb⟩
 try unfold S
 have H6:=jq (H5.out.here hb);clear hb H5;go_wp2_with fail
 refine(HM3.out _).mono ?_;rintro e w6 ⟨rfl,hb⟩
 try unfold S
 have H8b:=jq (H6.out.here hb);clear hb H6;go_wp2_with fail
 refine(HCM.out _).mono ?_;rintro e w9 ⟨rfl,rfl⟩;go_wp2_with fail
 first|go_ret|skip
 rw[HPO.out];exact⟨rfl,H8b.out.bl⟩
end
section
theorem YT(a:List UInt8)(w:World)(ha:a.length<=50000):Calls Tryz.prog 49 #[S a] w (Qg (Qf ((val a:Int):Rat)) w):=by
 have HO:=jq (fun W=>ZdO W);have HRD:=jq (fun W=>YD a [49] W ha (by simp) (by decide));rw[show Rat.divInt (val a) (val [49])=((val a:Int):Rat) by rw[show val [49]=1 from by decide];exact Xw _] at HRD;have HPO:=jq (show Qg (Qf ((val a:Int):Rat)) w=fun e w'=>e=.returned (QC (Qf ((val a:Int):Rat)))/\Below w.1.size w w' from rfl);generalize Qg (Qf ((val a:Int):Rat)) w=post at*;generalize Qf ((val a:Int):Rat)=res at*;have HB:=jq (show FrB (w.alloc (.cells #[.string ⟨#[]⟩,.string ⟨#[]⟩] 26)) w.1.size Fr.zero from FrB.new w Fr.zero);have HBA:=jq (show Below w.1.size w (w.alloc (.cells #[.string ⟨#[]⟩,.string ⟨#[]⟩] 26)) from(Below.refl _ _).alloc (Nat.le_refl _) _);clear ha;unfold Qg QC at*
 unfold S at*
 go_enter Tryz.func49,Tryz.ntmps49
 go_wp2_with fail
 generalize w.alloc _=W at*;refine(HO.out _).mono ?_;rintro e w1 ⟨rfl,rfl⟩;go_wp2_with fail
 refine(HRD.out _).mono ?_;rintro e w2 ⟨rfl,hb2⟩;have H9:=jq (HB.out.here hb2);have HB9:=jq (HBA.out.trans (hb2.mono HBA.out.size));have z0:=H9.out.cells.1;have z1:=H9.out.cells.2;have f0:=H9.out.frozen 0;have f1:=H9.out.frozen 1;go_wp2_with fail
 refine bodyPost_ret (v:=.agg #[.string ⟨res.n.toArray⟩,.string ⟨res.d.toArray⟩]) (by simp[results,Tryz.results49,go_sem,z0,z1]) rfl ?_;rw[HPO.out];exact⟨rfl,(HB9.out.setCell (p:=⟨w.1.size,0,none⟩) (Nat.le_refl _) _).setCell (p:=⟨w.1.size,1,none⟩) (Nat.le_refl _) _⟩
theorem ZhN(f:Fr)(w:World)(hf:f.Sz 40003)(hg:(Qf f.rat).Sz 100000):Calls Tryz.prog 88 #[QC f] w (QS (Qf f.rat).raw.n (Qf f.rat).raw.d w):=by
 have HC:=jq (fun W=>VK f W hf);have HR:=jq (fun W=>Ym (Qf f.rat) W hg);have HPO:=jq (show QS (Qf f.rat).raw.n (Qf f.rat).raw.d w=fun e w'=>e=.returned (.tuple #[S (Qf f.rat).raw.n,S (Qf f.rat).raw.d])/\Below w.1.size w w' from rfl);generalize QS (Qf f.rat).raw.n (Qf f.rat).raw.d w=post at*;have HB:=jq (FrB.new w f);have HBA:=jq (show Below w.1.size w (w.alloc (.cells #[.string ⟨f.n.toArray⟩,.string ⟨f.d.toArray⟩] 26)) from(Below.refl _ _).alloc (Nat.le_refl _) _);obtain⟨x0,x1⟩:=HB.out.cells
 generalize (Qf f.rat).raw=r at*;generalize Qf f.rat=g at*;clear hf hg;unfold Qg QS QC at*
 unfold S at*
 go_enter Tryz.func88,Tryz.ntmps88
 go_wp2_with fail
 generalize w.alloc _=W at*;refine(HC.out _).mono ?_;rintro e w1 ⟨rfl,hb1⟩;go_wp2_with fail
 refine(HR.out _).mono ?_;rintro e w2 ⟨rfl,hb2⟩;go_wp2_with fail
 first|go_ret|skip
 rw[HPO.out];exact⟨rfl,HBA.out.trans ((hb1.trans (hb2.mono hb1.size)).mono HBA.out.size)⟩
theorem Zlf{k:Int}(h:k<=0):¬0<Qy k:=by
 unfold Qy
 split
 ·omega
 ·split<;>omega
theorem JX(f:Fr)(w:World)(hf:f.Sz 30000):Calls Tryz.prog 63 #[QC f] w (Qh (Qa (QK f.rat)) w):=by
 have HR:=jq (fun W=>Ym f W (hf.more (by omega)));obtain⟨fn,fd⟩:=f.raw_sz hf (by omega)
 have hd0:=f.raw_pos;have hq:(val f.raw.n).fdiv (val f.raw.d)=QK f.rat:=by rw[Zbp _ _ (by omega),f.raw_rat]
 have HD:=jq (fun W=>ZdN f.raw.n f.raw.d W (by omega) (by omega))
 have hql:(Qa ((val f.raw.n).fdiv (val f.raw.d))).length<=60000:=by
  obtain⟨K,hK⟩:∃K:Nat,K=30001:=⟨_,rfl⟩
  rw[show 30000+1=K from hK.symm] at fn
  have h1:((val f.raw.n).fdiv (val f.raw.d)).natAbs<10^(K+1):=by
   have h2:=Qz fn
   have h3:((val f.raw.n).fdiv (val f.raw.d)).natAbs<=(val f.raw.n).natAbs+1:=by
    have:=Int.natAbs_fdiv_le_natAbs (val f.raw.n) (val f.raw.d)
    omega
   have h5:1<=10^K:=Nat.one_le_pow _ _ (by omega);rw[Nat.pow_succ];generalize 10^K=P at*;omega
  have:=Qd h1
  omega
 have HM:=jq (fun W=>Yb (Qa ((val f.raw.n).fdiv (val f.raw.d))) f.raw.d W (by omega) (by omega));rw[Qc] at HM
 have hle:((val f.raw.n).fdiv (val f.raw.d))*val f.raw.d<=val f.raw.n:=by
  have h1:=Int.mul_fdiv_add_fmod (val f.raw.n) (val f.raw.d);have h2:=Int.fmod_nonneg_of_pos (val f.raw.n) hd0;rw[Int.mul_comm] at h1;omega
 have hml:(Qa ((val f.raw.n).fdiv (val f.raw.d)*val f.raw.d)).length<=200000:=by
  have:=XJ (a:=Qa ((val f.raw.n).fdiv (val f.raw.d))) (b:=f.raw.d) (L:=60000) hql (by omega)
  rw[Qc] at this;omega
 have HCM:=jq (fun W=>Xi (Qa ((val f.raw.n).fdiv (val f.raw.d)*val f.raw.d)) f.raw.n W (by omega) (by omega));rw[Qc] at HCM;have HSG:=jq (Zlf (k:=(val f.raw.n).fdiv (val f.raw.d)*val f.raw.d-val f.raw.n) (by omega));have HPO:=jq (show Qh (Qa (QK f.rat)) w=fun e w'=>e=.returned (S (Qa ((val f.raw.n).fdiv (val f.raw.d))))/\Below w.1.size w w' by rw[hq];rfl);generalize Qh (Qa (QK f.rat)) w=post at*;have HB:=jq (FrB.new w f);have HBA:=jq (show Below w.1.size w (w.alloc (.cells #[.string ⟨f.n.toArray⟩,.string ⟨f.d.toArray⟩] 26)) from(Below.refl _ _).alloc (Nat.le_refl _) _);obtain⟨x0,x1⟩:=HB.out.cells
 have HD0:=jq (show val f.raw.d≠0 by omega);clear hf fn fd hd0 hq hql hle hml;generalize Qy ((val f.raw.n).fdiv (val f.raw.d)*val f.raw.d-val f.raw.n)=sg at*;generalize Qa ((val f.raw.n).fdiv (val f.raw.d)*val f.raw.d)=pt at*;unfold Qh QS QC at*
 unfold S at*
 go_enter Tryz.func63,Tryz.ntmps63
 go_wp2_with fail
 generalize w.alloc _=W at*;refine(HR.out _).mono ?_;rintro e w1 ⟨rfl,hb1⟩;go_wp2_with fail
 refine(HD.out _).mono ?_;intro e w2 h2;obtain⟨rfl,hb2⟩:=Vl HD0.out h2
 clear h2;generalize Qa ((val f.raw.n).fdiv (val f.raw.d))=qt at*;go_wp2_with fail
 refine(HM.out _).mono ?_;rintro e w3 ⟨rfl,hb3⟩;go_wp2_with fail
 refine(HCM.out _).mono ?_;rintro e w4 ⟨rfl,rfl⟩;have hsg:=HSG.out;go_wp2_with fail
 first|go_ret|skip
 rw[HPO.out];exact⟨rfl,HBA.out.trans ((hb1.trans ((hb2.trans (hb3.mono hb2.size)).mono hb1.size)).mono HBA.out.size)⟩
end
section
end
section
theorem Zm5{q:Rat}{L:Nat}(h:RB L q):RB L (-q):=by
 unfold RB at*
 rw[Rat.neg_num,Rat.neg_den,Int.natAbs_neg];exact h
theorem ZbT(f h:Fr)(w:World)(hf:f.Sz 19999)(hh:h.Sz 19999):Calls Tryz.prog 64 #[QC f,QC h] w (Qg (Qf (f.rat-h.rat)) w):=by
 have HN:=jq (fun W=>Zld h W (hh.more (by omega)))
 have hz:(Qf (-h.rat)).Sz 20000:=by
  obtain⟨K,hK⟩:∃K:Nat,K=19999:=⟨_,rfl⟩
  rw[<-hK] at hh;have:=QF (Zm5 (Zae hh (by omega)))
  rwa [hK] at this
 have HA:=jq (fun W=>Zle f (Qf (-h.rat)) W (hf.more (by omega)) hz);rw[Qj,<-Rat.sub_eq_add_neg] at HA;have HPO:=jq (show Qg (Qf (f.rat-h.rat)) w=fun e w'=>e=.returned (QC (Qf (f.rat-h.rat)))/\Below w.1.size w w' from rfl);generalize Qg (Qf (f.rat-h.rat)) w=post at*;generalize Qf (f.rat-h.rat)=res at*;generalize Qf (-h.rat)=ng at*;have H3:=jq (Fr3.new w f h);obtain⟨x0,x1,y0,y1⟩:=H3.out.held
 clear hf hh hz;unfold QC at*
 unfold S at*
 go_enter Tryz.func64,Tryz.ntmps64
 go_upto_region 1 with (fail)
 generalize (((w.alloc (.cells #[.string ⟨f.n.toArray⟩,.string ⟨f.d.toArray⟩] 26)).alloc (.cells #[.string ⟨h.n.toArray⟩,.string ⟨h.d.toArray⟩] 26)).alloc (.cells #[.string ⟨#[]⟩,.string ⟨#[]⟩] 26))=W at*
 go_region_held3 (fun w'=>w'.cell? ⟨w.1.size,0,none⟩=some (.string ⟨f.n.toArray⟩)/\w'.cell? ⟨w.1.size,1,none⟩=some (.string ⟨f.d.toArray⟩)/\w'.cell? ⟨w.1.size+1,0,none⟩=some (.string ⟨h.n.toArray⟩)/\w'.cell? ⟨w.1.size+1,1,none⟩=some (.string ⟨h.d.toArray⟩))
  (first
    |exact(H3.out.here hz2).heldS _ _
    |exact(H3.out.here hz2).held
    |exact(H3.out.here hz).held
    |go_keep)
  (first
    |(go_at_call 118;refine(HN.out _).mono ?_;rintro e w1 ⟨rfl,hb1⟩;unfold QC S;have hz:Below W.1.size W w1:=(Below.refl _ W).drew.trans hb1)
    |(go_at_call 117;refine(HA.out _).mono ?_;rintro e w2 ⟨rfl,hb2⟩;unfold QC S;have hz2:=hz.trans (hb2.mono hz.size);have z0:=(H3.out.here hz2).c.cells.1;have z1:=(H3.out.here hz2).c.cells.2;have f0:=(H3.out.here hz2).c.frozen 0;have f1:=(H3.out.here hz2).c.frozen 1))
 all_goals
  go_wp2_with fail
  refine bodyPost_ret (v:=.agg #[.string ⟨res.n.toArray⟩,.string ⟨res.d.toArray⟩]) (by simp[results,Tryz.results64,go_sem,z0,z1]) rfl ?_;rw[HPO.out];exact⟨rfl,((H3.out.here hz2).bl.setCell (p:=⟨w.1.size+1+1,0,none⟩) (by simp only;omega) _).setCell (p:=⟨w.1.size+1+1,1,none⟩) (by simp only;omega) _⟩
end
section
theorem YE(a:List UInt8)(w:World)(ha:a.length<=100000000):Calls Tryz.prog 137 #[S a] w fun e w'=>e=.returned (.bool (decide (val a<0)))/\w=w':=by
 have HC:=jq (fun W=>Xi a [] W ha (by simp));rw[XK,Int.sub_zero] at HC;have HE:=jq (show decide (Qy (val a)<0)=decide (val a<0) by rw[Bool.eq_iff_iff,decide_eq_true_eq,decide_eq_true_eq];unfold Qy;(repeat' split)<;>omega);generalize Qy (val a)=z at*;generalize decide (val a<0)=bb at*;clear ha;unfold S at*
 go_enter Tryz.func137,Tryz.ntmps137
 go_wp2_with fail
 refine(HC.out _).mono ?_;rintro e w1 ⟨rfl,rfl⟩;go_wp2_with fail
 first|go_ret|skip
 exact⟨Qr HE.out,rfl⟩
theorem JD(A:Option Addr)(n c:Nat)(ws:List (List UInt8))(w:World)(hs:XA w w.1.size A n ws)(hl:∀x∈ws,x.length<=50000)(hn:n<=9999):
 Calls Tryz.prog 69 #[.slice A n c] w (Qh (Qa (Qw ws)) w):=by
 have HPO:=jq (show Qh (Qa (Qw ws)) w=fun e w'=>e=.returned (S (Qa (Qw ws)))/\Below w.1.size w w' from rfl);generalize Qh (Qa (Qw ws)) w=post at*;have HS:=jq hs;have HL:=jq hl;have H0:=jq (Below.refl w.1.size w);have hnw:=hs.1;have HNW:=jq hnw;clear hs hl hnw;unfold S at*
 go_enter Tryz.func69,Tryz.ntmps69
 go_wp2_with fail
 go_loopw [3,4] (fun s i wr=>∃k:Nat,k<=n/\i=.int .i64 k/\s=.string ⟨(Qa (Qw (ws.take k))).toArray⟩/\Hid (Below w.1.size w wr)) (fun _ i _=>n-(intOf i).toNat)
 case atStart=>exact⟨0,Nat.zero_le _,rfl,rfl,H0⟩
 case round=>
  clear H0;obtain⟨k,hk,rfl,rfl,H⟩:=hrel
  by_cases hlt:k<n
  ·obtain⟨b,off,x,rfl,hb,hx,d0⟩:=(HS.out.below H.out).st hlt
   have HA:=jq (VH (Qa (Qw (ws.take k))) x wr (by have:=YP HL.out (by rw[<-HNW.out];omega) k;omega) (by have:=HL.out x (List.mem_of_getElem? hx);omega));rw[Qc,<-Zb3 hx] at HA;clear hx;unfold S at HA;go_wp2_with fail
   refine HA.out.mono ?_;rintro e w1 ⟨rfl,hb1⟩
   try unfold S
   go_wp2_with fail
   go_roundw
   case rel=>exact⟨k+1,by omega,by go_num,rfl,H.out.trans (hb1.mono H.out.size)⟩
   case measure=>simp[intOf];omega
  ·have HE:=jq (show Qa (Qw (ws.take k))=Qa (Qw ws) by rw[List.take_of_length_le (by have:=HNW.out;omega)]);rw[HE.out];go_wp2_with fail
   first|go_ret|skip
   rw[HPO.out];exact⟨rfl,H.out⟩
theorem ZgL(t:List UInt8)(A:Option Addr)(n c:Nat)(ws:List (List UInt8))(w:World)(hs:XA w w.1.size A n ws)(ht:t.length<=100000)(hl:∀x∈ws,x.length<=50000)(hn:n<=1000000000):
 Calls Tryz.prog 212 #[S t,.slice A n c] w (Qq (Xa t ws) w):=by
 have HPO:=jq (show Qq (Xa t ws) w=fun e w'=>e=.returned (.int .i64 (Xa t ws))/\Below w.1.size w w' from rfl);have HSC:=jq (show Xa t ws=if ws=[] then 11 else if 1000<ws.length then 4 else if QJ t=false\/ws.any (fun x=> !QJ x||decide (val x<0))=true then 1 else if Qw ws=0 then 10 else 0 from rfl);generalize Qq (Xa t ws) w=post at*;generalize Xa t ws=res at*;have HS:=jq hs;have HL:=jq hl;have H0:=jq (Below.refl w.1.size w);have hnw:=hs.1;have HC:=jq (fun W=>XM t W (by omega));have HCX:=jq (fun x (hx:x∈ws) W=>XM x W (by have:=hl x hx;omega));have HNX:=jq (fun x (hx:x∈ws) W=>YE x W (by have:=hl x hx;omega));have HNW:=jq hnw;clear hs hl ht;unfold S at*
 rcases Nat.eq_zero_or_pos n with h0|h0
 ·subst h0;rw[if_pos (List.eq_nil_of_length_eq_zero hnw.symm)] at HSC;clear hnw hn;go_enter Tryz.func212,Tryz.ntmps212
  go_wp2_with fail
  first|go_ret|skip
  rw[HPO.out,HSC.out];exact⟨rfl,H0.out⟩
 rw[if_neg (fun e=>by rw[e] at hnw;simp at hnw;omega),<-hnw] at HSC;have hn0:((n:Int)==0)=false:=by simp;omega
 by_cases h1:1000<n
 ·rw[if_pos h1] at HSC;clear hnw;go_enter Tryz.func212,Tryz.ntmps212
  go_wp2_with fail
  first|go_ret|skip
  rw[HPO.out,HSC.out];exact⟨rfl,H0.out⟩
 rw[if_neg h1] at HSC;have hn1:¬1000<n:=h1;have HW:=jq (fun W (hb:Below w.1.size w W)=>JD A n c ws W (HS.out.here hb) HL.out (by omega))
 have HE:=jq (show(Qa (Qw ws)==[])=decide (Qw ws=0) by
  rw[Bool.eq_iff_iff];simp only[beq_iff_eq,decide_eq_true_eq];exact XN)
 clear hnw h1;generalize QJ t=ct at*
 cases ct with
 |false=>
  rw[if_pos (.inl rfl)] at HSC;clear HW HE HCX HNX;go_enter Tryz.func212,Tryz.ntmps212
  go_wp2_with fail
  refine(HC.out _).mono ?_;rintro e w1 ⟨rfl,rfl⟩;go_wp2_with fail
  first|go_ret|skip
  rw[HPO.out,HSC.out];exact⟨rfl,H0.out⟩
 |true=>
  rw[if_pos rfl] at HC;go_enter Tryz.func212,Tryz.ntmps212
  go_wp2_with fail
  refine(HC.out _).mono ?_;rintro e w1 ⟨rfl,rfl⟩;go_wp2_with fail
  go_loopw [5] (fun i wr=>∃k:Nat,k<=n/\i=.int .i64 k/\Hid ((ws.take k).any (fun x=> !QJ x||decide (val x<0))=false)/\Hid (Below w.1.size w wr)) (fun i _=>n-(intOf i).toNat)
  case atStart=>exact⟨0,Nat.zero_le _,rfl,by show _=_;simp,H0⟩
  case round=>
   clear H0;obtain⟨k,hk,rfl,HAN,H⟩:=hrel
   by_cases hlt:k<n
   ·obtain⟨b,off,x,rfl,hb,hx,d0⟩:=(HS.out.below H.out).st hlt
    have hxm:=List.mem_of_getElem? hx;have HC1:=jq (HCX.out x hxm);have HN1:=jq (HNX.out x hxm);have HX:=jq hx;clear hx hxm
    cases hcx:QJ x with
    |false=>
     rw[hcx,if_neg (by decide)] at HC1;rw[if_pos (.inr (List.any_eq_true.2 ⟨x,List.mem_of_getElem? HX.out,by rw[hcx];rfl⟩))] at HSC;clear hcx;go_wp2_with fail
     refine(HC1.out _).mono ?_;rintro e w1 ⟨rfl,rfl⟩;go_wp2_with fail
     first|go_ret|skip
     rw[HPO.out,HSC.out];exact⟨rfl,H.out⟩
    |true=>
     rw[hcx,if_pos rfl] at HC1
     cases hng:decide (val x<0) with
     |true=>
      rw[hng] at HN1;rw[if_pos (.inr (List.any_eq_true.2 ⟨x,List.mem_of_getElem? HX.out,by rw[hng,hcx];rfl⟩))] at HSC;clear hcx hng;go_wp2_with fail
      refine(HC1.out _).mono ?_;rintro e w1 ⟨rfl,rfl⟩;go_wp2_with fail
      refine(HN1.out _).mono ?_;rintro e w1 ⟨rfl,rfl⟩;go_wp2_with fail
      first|go_ret|skip
      rw[HPO.out,HSC.out];exact⟨rfl,H.out⟩
     |false=>
      rw[hng] at HN1;have HAN2:=jq (ZaH HX.out HAN.out (by rw[hng,hcx];rfl));clear hcx hng;go_wp2_with fail
      refine(HC1.out _).mono ?_;rintro e w1 ⟨rfl,rfl⟩;go_wp2_with fail
      refine(HN1.out _).mono ?_;rintro e w1 ⟨rfl,rfl⟩;go_wp2_with fail
      go_roundw
      case rel=>exact⟨k+1,by omega,by go_num,HAN2.out,H.out⟩
      case measure=>simp[intOf];omega
   ·have HAA:=jq (show ws.any (fun x=> !QJ x||decide (val x<0))=false by
     have:=HAN.out
     rwa [List.take_of_length_le (by have:=HNW.out;omega)] at this)
    rw[if_neg (fun h=>h.elim (fun h=>by cases h) (fun h=>by rw[HAA.out] at h;cases h))] at HSC;clear HCX HNX;generalize Qa (Qw ws)=tw at*;generalize hz:decide (Qw ws=0)=zz at*;have HZ:=jq hz;clear hz
    cases zz with
    |true=>
     rw[if_pos (by have:=HZ.out;simpa using this)] at HSC;have hx:(tw==[])=true:=HE.out
     have hx2:tw.isEmpty=true:=by cases tw<;>simp_all
     clear HE HZ;go_wp2_with fail
     refine(HW.out _ H.out).mono ?_;rintro e w3 ⟨rfl,hb⟩
     try unfold S
     go_wp2_with fail
     first|go_ret|skip
     rw[HPO.out,HSC.out];exact⟨rfl,H.out.trans (hb.mono H.out.size)⟩
    |false=>
     rw[if_neg (by have:=HZ.out;simpa using this)] at HSC;have hx:(tw==[])=false:=HE.out
     have hx2:tw.isEmpty=false:=by cases tw<;>simp_all
     clear HE HZ;go_wp2_with fail
     refine(HW.out _ H.out).mono ?_;rintro e w3 ⟨rfl,hb⟩
     try unfold S
     go_wp2_with fail
     first|go_ret|skip
     rw[HPO.out,HSC.out];exact⟨rfl,H.out.trans (hb.mono H.out.size)⟩
end
end Go.Proofs.YtpnncoinlopndaaGreatDoor
