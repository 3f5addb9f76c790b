/- RF1, RF2, RF3, RF4, RS1, RS2. -/
import Derived.Test.YtkddgeclncafoaaGreatDoorQGEn13
import Derived.Test.YtkddgeclncafoaaGreatDoorQGEn32
set_option maxRecDepth 20000
set_option maxHeartbeats 1000000
namespace Go.Proofs.YtkddgeclncafoaaGreatDoor
open Go.Lib renaming hid→jq
open Go.RowKit Go.Shelf
section
def Fr.raw(f:Fr):Fr:=⟨if val f.d<0 then Qa (-val f.n) else f.n,if val f.d=0 then[49] else if val f.d<0 then Qa (-val f.d) else f.d⟩
theorem Fr.raw_pos(f:Fr):0<val f.raw.d:=by
 unfold Fr.raw;simp only
 split
 ·rw[XS];omega
 ·split
  ·rw[Qc];omega
  ·omega
theorem Fr.raw_dv(f:Fr):f.raw.dv=val f.raw.d:=by
 have:=f.raw_pos
 unfold Fr.dv;rw[if_neg (by omega)]
theorem Fr.raw_rat(f:Fr):Rat.divInt (val f.raw.n) (val f.raw.d)=f.rat:=by
 unfold Fr.raw Fr.rat Fr.dv;simp only
 by_cases h0:val f.d=0
 ·rw[if_pos h0,if_pos h0,if_neg (by omega),XS]
 ·rw[if_neg h0,if_neg h0]
  by_cases h1:val f.d<0
  ·rw[if_pos h1,if_pos h1,Qc,Qc,Rat.neg_divInt_neg]
  ·rw[if_neg h1,if_neg h1]
theorem Fr.raw_rat'(f:Fr):f.raw.rat=f.rat:=by
 have:=f.raw_rat
 rw[<-f.raw_dv] at this;exact this
theorem Fr.raw_sz{f:Fr}{L:Nat}(h:f.Sz L)(_hL:1<=L):f.raw.Sz (L+1):=by
 have h1:=JF f.n;have h2:=JF f.d;have h3:=h.1;have h4:=h.2;have e1:=Qg (n:= -val f.n) (L:=f.n.length) (by omega);have e2:=Qg (n:= -val f.d) (L:=f.d.length) (by omega);unfold Fr.raw
 constructor
 ·simp only
  split<;>omega
 ·simp only
  split
  ·simp
  ·split<;>omega
theorem ZbI(a:List UInt8)(w:World)(ha:a.length<=100000000):Calls Tryz.prog 133 #[S a] w fun e w'=>e=.returned (.bool (decide (val a=0)))/\w=w':=by
 have HC:=jq (QX a [] w ha (by simp));rw[Xr,Int.sub_zero] at HC;have HE:=jq (ZfI (val a));generalize Qt (val a)=z at*;generalize decide (val a=0)=bb at*;clear ha;unfold S at*
 go_enter Tryz.func133,Tryz.ntmps133
 go_wp2_with fail
 refine HC.out.mono ?_;rintro e w1 ⟨rfl,rfl⟩;go_wp2_with fail
 go_ret
 exact⟨Qe HE.out,rfl⟩
theorem ZcZ(w:World):Calls Tryz.prog 80 #[] w fun e w'=>e=.returned (S [49])/\w=w':=by
 have HC:=jq (Zbg 1 (by omega) (by omega) w);rw[Za4] at HC;unfold S at*
 go_enter Tryz.func80,Tryz.ntmps80
 go_wp2_with fail
 refine HC.out.mono ?_;rintro e w1 ⟨rfl,rfl⟩;go_wp2_with fail
 go_ret
 exact⟨rfl,rfl⟩
theorem Yk(f:Fr)(w:World)(hf:f.Sz 100000):Calls Tryz.prog 77 #[Qq f] w (QQ f.raw.n f.raw.d w):=by
 have hbA:Below w.1.size w (w.alloc (.cells #[.string ⟨f.n.toArray⟩,.string ⟨f.d.toArray⟩] 26)):=(Below.refl _ _).alloc (Nat.le_refl _) _;have HZ:=jq (fun W=>ZbI f.d W (by have:=hf.2;omega));have HO:=jq (fun W=>ZcZ W);have HCM:=jq (fun W=>QX f.d [] W (by have:=hf.2;omega) (by simp));rw[Xr,Int.sub_zero] at HCM;have HN1:=jq (fun W=>Zbe f.n W (by have:=hf.1;omega));have HN2:=jq (fun W=>Zbe f.d W (by have:=hf.2;omega));have HPO:=jq (show QQ f.raw.n f.raw.d w=fun e w'=>e=.returned (.tuple #[S f.raw.n,S f.raw.d])/\Below w.1.size w w' from rfl);have HB:=jq (FrB.new w f);have HBA:=jq hbA;generalize QQ f.raw.n f.raw.d w=post at*;obtain⟨c0,c1⟩:=HB.out.cells
 clear hbA hf;unfold Fr.raw at HPO;unfold S Qq at*
 unfold S;go_enter Tryz.func77,Tryz.ntmps77
 go_wp2_with fail
 generalize w.alloc _=W at*
 by_cases h0:val f.d=0
 ·rw[show decide (val f.d=0)=true by simp[h0]] at HZ;rw[if_pos h0,if_neg (by omega)] at HPO;clear h0 HCM HN1 HN2;refine(HZ.out _).mono ?_;rintro e w1 ⟨rfl,rfl⟩;go_wp2_with fail
  go_quiet ((go_at_call 80;exact Calls.quiet_of_same ((HO.out _).mono (fun e w' h=>And.intro h.1 h.2.symm))))
  go_wp2_with fail
  rw[HPO.out];exact⟨rfl,bdN HBA.out _⟩
 ·rw[show decide (val f.d=0)=false by simp[h0]] at HZ;rw[if_neg h0] at HPO;refine(HZ.out _).mono ?_;rintro e w1 ⟨rfl,rfl⟩
  by_cases h1:val f.d<0
  ·rw[show Qt (val f.d)= -1 by unfold Qt;rw[if_pos h1]] at HCM;rw[if_pos h1,if_pos h1] at HPO;clear h0 h1;go_wp2_with fail
   refine(HCM.out _).mono ?_;rintro e w1 ⟨rfl,rfl⟩;go_wp2_with fail
   go_quiet (first|(go_at_call_of 130 (Value.string ⟨f.n.toArray⟩);exact Calls.quiet_of_same ((HN1.out _).mono (fun e w' h=>And.intro h.1 h.2.symm)))|(go_at_call_of 130 (Value.string ⟨f.d.toArray⟩);exact Calls.quiet_of_same ((HN2.out _).mono (fun e w' h=>And.intro h.1 h.2.symm))))
   go_wp2_with fail
   rw[HPO.out];exact⟨rfl,bdN HBA.out _⟩
  ·rw[show Qt (val f.d)=1 by unfold Qt;rw[if_neg h1,if_pos (by omega)]] at HCM;rw[if_neg h1,if_neg h1] at HPO;clear h0 h1;go_wp2_with fail
   refine(HCM.out _).mono ?_;rintro e w1 ⟨rfl,rfl⟩;go_wp2_with fail
   go_quiet (fail)
   go_wp2_with fail
   rw[HPO.out];exact⟨rfl,bdN HBA.out _⟩
theorem Zc0(a b:List UInt8)(w:World)(ha:a.length<=100000)(hb:b.length<=100000)(h0:val b≠0):Calls Tryz.prog 135 #[S a,S b] w (Qo (Qa ((val a).fdiv (val b))) w):=by
 have HD:=jq (ZcY a b w ha hb);have HPO:=jq (show Qo (Qa ((val a).fdiv (val b))) w=fun e w'=>e=.returned (S (Qa ((val a).fdiv (val b))))/\Below w.1.size w w' from rfl);generalize Qo (Qa ((val a).fdiv (val b))) w=post at*;unfold S at*
 go_enter Tryz.func135,Tryz.ntmps135
 go_wp2_with fail
 refine HD.out.mono ?_;intro e w1 h1;obtain⟨rfl,hb1⟩:=Va h0 h1
 clear h1;go_wp2_with fail
 first|go_ret|skip
 rw[HPO.out];exact⟨rfl,hb1⟩
end
section
theorem Zhn{w W:World}{p:Nat}(h:Below w.1.size w W)(hp:w.1.size<p)(u v t:Value):Below w.1.size w (((W.setCell ⟨p,1,none⟩ u).setCell ⟨w.1.size,0,none⟩ v).setCell ⟨w.1.size,1,none⟩ t):=
 ((h.setCell (p:=⟨p,1,none⟩) (Nat.le_of_lt hp) _).setCell (p:=⟨w.1.size,0,none⟩) (Nat.le_refl _) _).setCell (p:=⟨w.1.size,1,none⟩) (Nat.le_refl _) _
theorem Yl(n d:List UInt8)(w:World)(hn:n.length<=50000)(hd:d.length<=50000)(hd0:0<val d):
 Calls Tryz.prog 78 #[S n,S d] w (Qh (Qd (Rat.divInt (val n) (val d))) w):=by
 have HZ:=jq (fun W=>ZbI n W (by omega));have HGC:=jq (fun W=>Zli n d W (by omega) (by omega));have HGL:=jq (Zh8 (val n) (d:=d) (by omega));have HGP:=jq (ZhR (val n) (val d) (by omega));have HR1:=jq (ZhP (val n) (val d) hd0);have HR2:=jq (ZhQ (val n) (val d) hd0);have HQ0:=jq (show val n=0->Qq (Qd (Rat.divInt (val n) (val d)))=Qq Fr.zero by intro h;rw[h,Rat.zero_divInt];rfl)
 have HQL:=jq (show(Qa (Rat.divInt (val n) (val d)).den).length<=50001 by
  obtain⟨K,hK⟩:∃K:Nat,K=50000:=⟨_,rfl⟩
  rw[<-hK] at hd;have:=Qg (n:=((Rat.divInt (val n) (val d)).den:Int)) (L:=K) (Nat.lt_of_le_of_lt (by have:=Zav (val n) (val d) (by omega);simpa using this) (Qv hd))
  omega)
 have HB:=jq (show FrB (w.alloc (.cells #[.string ⟨#[]⟩,.string ⟨#[]⟩] 26)) w.1.size Fr.zero from FrB.new w Fr.zero);have HBA:=jq (show Below w.1.size w (w.alloc (.cells #[.string ⟨#[]⟩,.string ⟨#[]⟩] 26)) from(Below.refl _ _).alloc (Nat.le_refl _) _);have HPO:=jq (show Qh (Qd (Rat.divInt (val n) (val d))) w=fun e w'=>e=.returned (Qq (Qd (Rat.divInt (val n) (val d))))/\Below w.1.size w w' from rfl);have HN:=jq hn;have HD:=jq hd;generalize Qh (Qd (Rat.divInt (val n) (val d))) w=post at*;generalize Rat.divInt (val n) (val d)=q at*;generalize Int.gcd (val n) (val d)=g at*;have HV1:=jq (fun W=>Zc0 n (Qa (g:Int)) W (by have:=HN.out;omega) (by have:=HGL.out;have:=HD.out;omega) (by rw[Qc];have:=HGP.out;omega));have HV2:=jq (fun W=>Zc0 d (Qa (g:Int)) W (by have:=HD.out;omega) (by have:=HGL.out;have:=HD.out;omega) (by rw[Qc];have:=HGP.out;omega));rw[Qc,HR1.out] at HV1;rw[Qc,HR2.out] at HV2;have HO:=jq (fun W=>ZcZ W);have HCM:=jq (fun W=>QX (Qa (q.den:Int)) [49] W (by have:=HQL.out;omega) (by simp));rw[Qc,XS] at HCM;clear hn hd hd0 HR1 HR2 HGP HGL HN HD HQL;unfold S at*
 go_enter Tryz.func78,Tryz.ntmps78
 go_wp2_with fail
 generalize w.alloc _=W at*
 by_cases h0:val n=0
 ·rw[show decide (val n=0)=true by simp[h0]] at HZ;have HF:=jq (HQ0.out h0);obtain⟨c0,c1⟩:=HB.out.cells
  have f0:=HB.out.frozen 0;have f1:=HB.out.frozen 1;clear h0 HQ0 HV1 HV2 HCM HGC HO;refine(HZ.out _).mono ?_;rintro e w1 ⟨rfl,rfl⟩;go_wp2_with fail
  refine bodyPost_ret (v:=.agg #[.string ⟨#[]⟩,.string ⟨#[]⟩]) (by simp[results,Tryz.results78,go_sem,c0,c1]) rfl ?_;rw[HPO.out,HF.out];exact⟨rfl,(HBA.out.setCell (p:=⟨w.1.size,0,none⟩) (Nat.le_refl _) _).setCell (p:=⟨w.1.size,1,none⟩) (Nat.le_refl _) _⟩
 ·rw[show decide (val n=0)=false by simp[h0]] at HZ;clear h0 HQ0;refine(HZ.out _).mono ?_;rintro e w1 ⟨rfl,rfl⟩;go_wp2_with fail
  refine(HGC.out _).mono ?_;rintro e w2 ⟨rfl,hb2⟩;have HB2:=jq (HB.out.here hb2);unfold S;go_wp2_with fail
  refine(HV1.out _).mono ?_;rintro e w3 ⟨rfl,hb3⟩;have HB3:=jq (HB2.out.here hb3);unfold S;go_wp2_with fail
  refine(HV2.out _).mono ?_;rintro e w4 ⟨rfl,hb4⟩;have HB4:=jq (HB3.out.here hb4);unfold S;have hb03:=HBA.out.trans ((hb2.trans ((hb3.trans (hb4.mono hb3.size)).mono hb2.size)).mono HBA.out.size);have hbX:=(Below.refl w4.1.size w4).alloc (Nat.le_refl _) (.cells #[.string ⟨(Qa q.num).toArray⟩,.string ⟨(Qa (q.den:Int)).toArray⟩] 26);have HB5:=jq (HB4.out.here hbX);have HG5:=jq (FrB.new w4 ⟨Qa q.num,Qa (q.den:Int)⟩);have HLT:=jq (show w.1.size<w4.1.size from HB4.out.lt);have HBX:=jq (hb03.trans (hbX.mono hb03.size));clear HB HB2 HB3 HB4 hb2 hb3 hb4 hbX HZ HGC HV1 HV2 hb03;go_upto_region 5 with (fail)
  obtain⟨g0,g1⟩:=HG5.out.cells
  have gf1:=HG5.out.frozen 1;obtain⟨c0,c1⟩:=HB5.out.cells
  have f0:=HB5.out.frozen 0;have f1:=HB5.out.frozen 1;simp only at g0 g1
  generalize w4.alloc _=W5 at*;have hlt:=HLT.out;have hne1:w.1.size≠w4.1.size:=by omega
  have hne2:w4.1.size≠w.1.size:=by omega
  by_cases h1:q.den=1
  ·have HF:=jq (show Qq (Qd q)=.agg #[.string ⟨(Qa q.num).toArray⟩,.string ⟨#[]⟩] by unfold Qq Qd;simp only[if_pos h1];rfl);rw[show Qt ((q.den:Int)-1)=0 by rw[h1];rfl] at HCM;clear h1
   go_quiet (first
    |(go_at_call 80;exact Calls.quiet_of_same ((HO.out _).mono (fun e w' h=>And.intro h.1 h.2.symm)))
    |(go_at_call 57;exact Calls.quiet_of_same ((HCM.out _).mono (fun e w' h=>And.intro h.1 h.2.symm))))
   go_wp2_with fail
   refine bodyPost_ret (v:=.agg #[.string ⟨(Qa q.num).toArray⟩,.string ⟨#[]⟩]) (by simp[results,Tryz.results78,go_sem,c0,c1]) rfl ?_;rw[HPO.out,HF.out];exact⟨rfl,Zhn (bdN HBX.out _) HLT.out _ _ _⟩
  ·have HF:=jq (show Qq (Qd q)=.agg #[.string ⟨(Qa q.num).toArray⟩,.string ⟨(Qa q.den).toArray⟩] by unfold Qq Qd;simp only[if_neg h1];rfl);rw[show Qt ((q.den:Int)-1)=1 by unfold Qt;rw[if_neg (by have:=q.den_pos;omega),if_pos (by have:=q.den_pos;omega)]] at HCM;clear h1;generalize Qa (q.den:Int)=t at*
   go_quiet (first
    |(go_at_call 80;exact Calls.quiet_of_same ((HO.out _).mono (fun e w' h=>And.intro h.1 h.2.symm)))
    |(go_at_call 57;exact Calls.quiet_of_same ((HCM.out _).mono (fun e w' h=>And.intro h.1 h.2.symm))))
   go_wp2_with fail
   refine bodyPost_ret (v:=.agg #[.string ⟨(Qa q.num).toArray⟩,.string ⟨t.toArray⟩]) (by simp[results,Tryz.results78,go_sem,c0,c1]) rfl ?_;rw[HPO.out,HF.out];exact⟨rfl,((bdN HBX.out _).setCell (p:=⟨w.1.size,0,none⟩) (Nat.le_refl _) _).setCell (p:=⟨w.1.size,1,none⟩) (Nat.le_refl _) _⟩
structure Fr2 (w:World) (p:Nat) (f h:Fr) (W:World):Prop where
 a:FrB W p f
 b:FrB W (p+1) h
 bl:Below w.1.size w W
theorem Fr2.here{w:World}{p:Nat}{f h:Fr}{W W':World}(H:Fr2 w p f h W)(hb:Below W.1.size W W'):Fr2 w p f h W':=⟨H.a.here hb,H.b.here hb,H.bl.trans (hb.mono H.bl.size)⟩
theorem Fr2.held{w:World}{p:Nat}{f h:Fr}{W:World}(H:Fr2 w p f h W):W.cell? ⟨p,0,none⟩=some (.string ⟨f.n.toArray⟩)/\W.cell? ⟨p,1,none⟩=some (.string ⟨f.d.toArray⟩)/\W.cell? ⟨p+1,0,none⟩=some (.string ⟨h.n.toArray⟩)/\W.cell? ⟨p+1,1,none⟩=some (.string ⟨h.d.toArray⟩):=
 ⟨H.a.cells.1,H.a.cells.2,H.b.cells.1,H.b.cells.2⟩
theorem Fr2.new(w:World)(f h:Fr):Fr2 w w.1.size f h ((w.alloc (.cells #[.string ⟨f.n.toArray⟩,.string ⟨f.d.toArray⟩] 26)).alloc (.cells #[.string ⟨h.n.toArray⟩,.string ⟨h.d.toArray⟩] 26)):=by
 refine⟨(FrB.new w f).alloc _,?_,((Below.refl _ _).alloc (Nat.le_refl _) _).alloc (by simp) _⟩;have:=FrB.new (w.alloc (.cells #[.string ⟨f.n.toArray⟩,.string ⟨f.d.toArray⟩] 26)) h
 simp only[World.size_alloc] at this;exact this
theorem Fr2.newz(w:World)(f:Fr):Fr2 w w.1.size f Fr.zero ((w.alloc (.cells #[.string ⟨f.n.toArray⟩,.string ⟨f.d.toArray⟩] 26)).alloc (.cells #[.string ⟨#[]⟩,.string ⟨#[]⟩] 26)):=Fr2.new w f Fr.zero
theorem JW(f:Fr)(w:World)(hf:f.Sz 40003):Calls Tryz.prog 99 #[Qq f] w (Qh (Qd f.rat) w):=by
 have HR:=jq (fun W=>Yk f W (hf.more (by omega)));obtain⟨fn,fd⟩:=f.raw_sz hf (by omega)
 have HRD:=jq (fun W=>Yl f.raw.n f.raw.d W (by omega) (by omega) f.raw_pos);rw[f.raw_rat] at HRD;have HPO:=jq (show Qh (Qd f.rat) w=fun e w'=>e=.returned (Qq (Qd f.rat))/\Below w.1.size w w' from rfl);generalize Qh (Qd f.rat) w=post at*;generalize Qd f.rat=res at*;have H2:=jq (Fr2.newz w f);obtain⟨x0,x1⟩:=H2.out.a.cells
 clear hf fn fd;generalize f.raw=x at*;unfold Qq at*
 unfold S at*
 go_enter Tryz.func99,Tryz.ntmps99
 go_wp2_with fail
 generalize (w.alloc (.cells #[.string ⟨f.n.toArray⟩,.string ⟨f.d.toArray⟩] 26)).alloc (.cells #[.string ⟨#[]⟩,.string ⟨#[]⟩] 26)=W at*;refine(HR.out _).mono ?_;rintro e w1 ⟨rfl,hb1⟩;unfold S;have H3:=jq (H2.out.here hb1);go_wp2_with fail
 refine(HRD.out _).mono ?_;rintro e w2 ⟨rfl,hb2⟩;unfold Qq S;have H9:=jq (H3.out.here hb2);have z0:=H9.out.b.cells.1;have z1:=H9.out.b.cells.2;have f0:=H9.out.b.frozen 0;have f1:=H9.out.b.frozen 1;go_wp2_with fail
 refine bodyPost_ret (v:=.agg #[.string ⟨res.n.toArray⟩,.string ⟨res.d.toArray⟩]) (by simp[results,Tryz.results99,go_sem,z0,z1]) rfl ?_;rw[HPO.out];exact⟨rfl,(H9.out.bl.setCell (p:=⟨w.1.size+1,0,none⟩) (by simp only;omega) _).setCell (p:=⟨w.1.size+1,1,none⟩) (by simp only;omega) _⟩
theorem Zc1(f:Fr)(w:World)(hf:f.Sz 40000):Calls Tryz.prog 56 #[Qq f] w (Qn (Vb f) w):=by
 have HC:=jq (fun W=>JW f W (hf.more (by omega)));have HPO:=jq (show Qn (Vb f) w=fun e w'=>e=.returned (.int .i64 (Vb f))/\Below w.1.size w w' from rfl);have HCK:=jq (show Vb f=if f=Qd f.rat then 0 else 1 from rfl);generalize Qn (Vb f) w=post at*;generalize Qd f.rat=g at*;have HB:=jq (FrB.new w f);have HBA:=jq (show Below w.1.size w (w.alloc (.cells #[.string ⟨f.n.toArray⟩,.string ⟨f.d.toArray⟩] 26)) from(Below.refl _ _).alloc (Nat.le_refl _) _);obtain⟨x0,x1⟩:=HB.out.cells
 clear hf
 have HEQ:=jq (show Vb f=if(f.n==g.n)&&(f.d==g.d) then 0 else 1 by
  rw[HCK.out]
  by_cases h:f=g
  ·subst h;simp
  ·rw[if_neg h,if_neg];intro h2;simp at h2;exact h (Fr.ext_ h2.1 h2.2))
 clear HCK;unfold Qq at*
 unfold S at*
 cases hn:(f.n==g.n)<;>cases hd:(f.d==g.d)
 all_goals
  rw[hn,hd] at HEQ;simp only[Bool.and_true,Bool.and_false,Bool.false_eq_true,if_true,if_false] at HEQ;go_enter Tryz.func56,Tryz.ntmps56
  go_upto_region 1 with (fail)
  generalize w.alloc _=W at*
  go_region_held3 (fun w'=>w'.cell? ⟨w.1.size,0,none⟩=some (.string ⟨f.n.toArray⟩)/\w'.cell? ⟨w.1.size,1,none⟩=some (.string ⟨f.d.toArray⟩))
   (first
     |exact(HB.out.here hz).cells
     |go_keep)
   (first
     |(go_at_call 99;refine(HC.out _).mono ?_;rintro e w1 ⟨rfl,hb1⟩;unfold Qq S;have hz:Below W.1.size W w1:=(Below.refl _ W).drew.trans hb1))
  all_goals
   go_wp2_with fail
   rw[HPO.out,HEQ.out];exact⟨rfl,HBA.out.trans (hz.mono HBA.out.size)⟩
def Zc2(f:Fr):Fr×Int:=if val f.d=0 then(Fr.zero,10) else(Qd f.rat,0)
theorem Zc3(f:Fr)(w:World)(hf:f.Sz 40003):Calls Tryz.prog 175 #[S f.n,S f.d] w (Xt (Zc2 f) w):=by
 have HZ:=jq (fun W=>ZbI f.d W (by have:=hf.2;omega));have HC:=jq (fun W=>JW f W hf);have HPO:=jq (show Xt (Zc2 f) w=fun e w'=>e=.returned (.tuple #[Qq (Zc2 f).1,.int .i64 (Zc2 f).2])/\Below w.1.size w w' from rfl);have HNL:=jq (show Zc2 f=if val f.d=0 then(Fr.zero,10) else(Qd f.rat,0) from rfl);generalize Xt (Zc2 f) w=post at*;generalize Zc2 f=nl at*;generalize Qd f.rat=res at*;have HB:=jq (show FrB (w.alloc (.cells #[.string ⟨#[]⟩,.string ⟨#[]⟩] 26)) w.1.size Fr.zero from FrB.new w Fr.zero);have HBA:=jq (show Below w.1.size w (w.alloc (.cells #[.string ⟨#[]⟩,.string ⟨#[]⟩] 26)) from(Below.refl _ _).alloc (Nat.le_refl _) _);clear hf;unfold Qq at*
 unfold S at*
 go_enter Tryz.func175,Tryz.ntmps175
 go_wp2_with fail
 generalize w.alloc _=W at*
 by_cases h0:val f.d=0
 ·rw[show decide (val f.d=0)=true by simp[h0]] at HZ;rw[if_pos h0] at HNL;obtain⟨c0,c1⟩:=HB.out.cells
  have f0:=HB.out.frozen 0;have f1:=HB.out.frozen 1;clear h0 HC;refine(HZ.out _).mono ?_;rintro e w1 ⟨rfl,rfl⟩;go_wp2_with fail
  refine bodyPost_ret (v:=.tuple #[.agg #[.string ⟨#[]⟩,.string ⟨#[]⟩],.int .i64 10]) (by simp[results,Tryz.results175,go_sem,c0,c1]) rfl ?_;rw[HPO.out,HNL.out];exact⟨rfl,(HBA.out.setCell (p:=⟨w.1.size,0,none⟩) (Nat.le_refl _) _).setCell (p:=⟨w.1.size,1,none⟩) (Nat.le_refl _) _⟩
 ·rw[show decide (val f.d=0)=false by simp[h0]] at HZ;rw[if_neg h0] at HNL;clear h0;refine(HZ.out _).mono ?_;rintro e w1 ⟨rfl,rfl⟩;go_wp2_with fail
  refine(HC.out _).mono ?_;rintro e w2 ⟨rfl,hb2⟩;unfold Qq S;have HB2:=jq (HB.out.here hb2);have hb02:=HBA.out.trans (hb2.mono HBA.out.size);obtain⟨c0,c1⟩:=HB2.out.cells
  have f0:=HB2.out.frozen 0;have f1:=HB2.out.frozen 1;go_wp2_with fail
  refine bodyPost_ret (v:=.tuple #[.agg #[.string ⟨res.n.toArray⟩,.string ⟨res.d.toArray⟩],.int .i64 0]) (by simp[results,Tryz.results175,go_sem,c0,c1]) rfl ?_;rw[HPO.out,HNL.out];exact⟨rfl,(hb02.setCell (p:=⟨w.1.size,0,none⟩) (Nat.le_refl _) _).setCell (p:=⟨w.1.size,1,none⟩) (Nat.le_refl _) _⟩
theorem ZmP(x:Fr)(h:0<val x.d):Rat.divInt (val (Qa (-val x.n))) (val x.d)= -x.rat:=by
 have e1:x.rat=Rat.divInt (val x.n) (val x.d):=by unfold Fr.rat Fr.dv;rw[if_neg (by omega)]
 rw[e1,Qc,Rat.neg_divInt]
theorem Zlj(f:Fr)(w:World)(hf:f.Sz 40000):Calls Tryz.prog 104 #[Qq f] w (Qh (Qd (-f.rat)) w):=by
 have HR:=jq (fun W=>Yk f W (hf.more (by omega)));obtain⟨fn,fd⟩:=f.raw_sz hf (by omega)
 have HN:=jq (fun W=>Zbe f.raw.n W (by omega));have HRD:=jq (fun W=>Yl (Qa (-val f.raw.n)) f.raw.d W (by have:=Qg (n:= -val f.raw.n) (L:=f.raw.n.length) (by have:=JF f.raw.n;omega);omega) (by omega) f.raw_pos);rw[ZmP _ f.raw_pos,f.raw_rat'] at HRD;have HPO:=jq (show Qh (Qd (-f.rat)) w=fun e w'=>e=.returned (Qq (Qd (-f.rat)))/\Below w.1.size w w' from rfl);generalize Qh (Qd (-f.rat)) w=post at*;generalize Qd (-f.rat)=res at*;have H2:=jq (Fr2.newz w f);obtain⟨x0,x1⟩:=H2.out.a.cells
 clear hf fn fd;generalize f.raw=x at*;unfold Qq at*
 unfold S at*
 go_enter Tryz.func104,Tryz.ntmps104
 go_wp2_with fail
 generalize (w.alloc (.cells #[.string ⟨f.n.toArray⟩,.string ⟨f.d.toArray⟩] 26)).alloc (.cells #[.string ⟨#[]⟩,.string ⟨#[]⟩] 26)=W at*;refine(HR.out _).mono ?_;rintro e w1 ⟨rfl,hb1⟩
 try unfold S
 have H3:=jq (H2.out.here hb1);go_wp2_with fail
 refine(HN.out _).mono ?_;rintro e w1 ⟨rfl,rfl⟩
 try unfold S
 go_wp2_with fail
 refine(HRD.out _).mono ?_;rintro e w2 ⟨rfl,hb2⟩;unfold Qq S;have H9:=jq (H3.out.here hb2);have z0:=H9.out.b.cells.1;have z1:=H9.out.b.cells.2;have f0:=H9.out.b.frozen 0;have f1:=H9.out.b.frozen 1;go_wp2_with fail
 refine bodyPost_ret (v:=.agg #[.string ⟨res.n.toArray⟩,.string ⟨res.d.toArray⟩]) (by simp[results,Tryz.results104,go_sem,z0,z1]) rfl ?_;rw[HPO.out];exact⟨rfl,(H9.out.bl.setCell (p:=⟨w.1.size+1,0,none⟩) (by simp only;omega) _).setCell (p:=⟨w.1.size+1,1,none⟩) (by simp only;omega) _⟩
end
section
theorem Xq{a b:List UInt8}{L:Nat}(ha:a.length<=L)(hb:b.length<=L):(Qa (val a*val b)).length<=L+L+1:=Qg (Qs (Qv ha) (Qv hb))
theorem Zc4{a b c d:List UInt8}{L:Nat}(ha:a.length<=L)(hb:b.length<=L)(hc:c.length<=L)(hd:d.length<=L):(Qa (val a*val b+val c*val d)).length<=L+L+1+1:=
 Qg (ZaG (Qs (Qv ha) (Qv hb)) (Qs (Qv hc) (Qv hd)))
theorem ZmQ(x y:Fr)(hx:0<val x.d)(hy:0<val y.d):Qt (val (Qa (val x.n*val y.d))-val (Qa (val y.n*val x.d)))=QK x.rat y.rat:=by
 have e1:x.rat=Rat.divInt (val x.n) (val x.d):=by unfold Fr.rat Fr.dv;rw[if_neg (by omega)]
 have e2:y.rat=Rat.divInt (val y.n) (val y.d):=by unfold Fr.rat Fr.dv;rw[if_neg (by omega)]
 rw[e1,e2,ZbS _ _ hx hy,Qc,Qc]
theorem ZmR(x y:Fr)(hx:0<val x.d)(hy:0<val y.d):Rat.divInt (val (Qa (val x.n*val y.d+val y.n*val x.d))) (val (Qa (val x.d*val y.d)))=x.rat+y.rat:=by
 have e1:x.dv=val x.d:=by unfold Fr.dv;rw[if_neg (by omega)]
 have e2:y.dv=val y.d:=by unfold Fr.dv;rw[if_neg (by omega)]
 rw[Zel,e1,e2,Qc,Qc]
theorem ZmS(x y:Fr)(hx:0<val x.d)(hy:0<val y.d):Rat.divInt (val (Qa (val x.n*val y.n))) (val (Qa (val x.d*val y.d)))=x.rat*y.rat:=by
 have e1:x.dv=val x.d:=by unfold Fr.dv;rw[if_neg (by omega)]
 have e2:y.dv=val y.d:=by unfold Fr.dv;rw[if_neg (by omega)]
 rw[Zem,e1,e2,Qc,Qc]
theorem Zlk(f h:Fr)(w:World)(hf:f.Sz 20000)(hh:h.Sz 20000):Calls Tryz.prog 103 #[Qq f,Qq h] w (Qh (Qd (f.rat+h.rat)) w):=by
 have HR1:=jq (fun W=>Yk f W (hf.more (by omega)));have HR2:=jq (fun W=>Yk h W (hh.more (by omega)));obtain⟨fn,fd⟩:=f.raw_sz hf (by omega)
 obtain⟨hn,hd⟩:=h.raw_sz hh (by omega)
 have fp:=f.raw_pos;have hp:=h.raw_pos;have HM1:=jq (fun W=>Yj f.raw.n h.raw.d W (by omega) (by omega));have HM2:=jq (fun W=>Yj h.raw.n f.raw.d W (by omega) (by omega));have HM3:=jq (fun W=>Yj f.raw.d h.raw.d W (by omega) (by omega));have HAD:=jq (fun W=>Yi (Qa (val f.raw.n*val h.raw.d)) (Qa (val h.raw.n*val f.raw.d)) W (by have:=Xq fn hd;omega) (by have:=Xq hn fd;omega));rw[Qc,Qc] at HAD;have HRD:=jq (fun W=>Yl (Qa (val f.raw.n*val h.raw.d+val h.raw.n*val f.raw.d)) (Qa (val f.raw.d*val h.raw.d)) W (by have:=Zc4 fn hd hn fd;omega) (by have:=Xq fd hd;omega) (by rw[Qc];exact Int.mul_pos fp hp));rw[ZmR _ _ fp hp,f.raw_rat',h.raw_rat'] at HRD;have HPO:=jq (show Qh (Qd (f.rat+h.rat)) w=fun e w'=>e=.returned (Qq (Qd (f.rat+h.rat)))/\Below w.1.size w w' from rfl);generalize Qh (Qd (f.rat+h.rat)) w=post at*;have H3:=jq (Fr3.new w f h);obtain⟨x0,x1,y0,y1⟩:=H3.out.held
 generalize Qd (f.rat+h.rat)=res at*;clear fn fd hn hd fp hp;generalize f.raw=x at*;generalize h.raw=y at*;clear hf hh;unfold Qq at*
 unfold S at*
 go_enter Tryz.func103,Tryz.ntmps103
 go_wp2_with fail
 generalize (((w.alloc (.cells #[.string ⟨f.n.toArray⟩,.string ⟨f.d.toArray⟩] 26)).alloc (.cells #[.string ⟨h.n.toArray⟩,.string ⟨h.d.toArray⟩] 26)).alloc (.cells #[.string ⟨#[]⟩,.string ⟨#[]⟩] 26))=W0 at*;refine(HR1.out _).mono ?_;rintro e w1 ⟨rfl,hb1⟩;unfold S;have H4:=jq (H3.out.here hb1);clear x0 x1 y0 y1 HR1 H3;obtain⟨x0,x1,y0,y1⟩:=H4.out.held
 go_wp2_with fail
 refine(HR2.out _).mono ?_;rintro e w2 ⟨rfl,hb2⟩;unfold S;have H5:=jq (H4.out.here hb2);clear x0 x1 y0 y1 HR2 H4 hb1 hb2;go_wp2_with fail
 refine(HM1.out _).mono ?_;rintro e w3 ⟨rfl,hb⟩
 try unfold S
 have H6:=jq (H5.out.here hb);clear hb H5;go_wp2_with fail
 refine(HM2.out _).mono ?_;rintro e w4 ⟨rfl,hb⟩
 try unfold S
 have H7:=jq (H6.out.here hb);clear hb H6;go_wp2_with fail
 refine(HAD.out _).mono ?_;rintro e w5 ⟨rfl,hb⟩
 try unfold S
 have H8:=jq (H7.out.here hb);clear hb H7;go_wp2_with fail
 refine(HM3.out _).mono ?_;rintro e w6 ⟨rfl,hb⟩
 try unfold S
 have H8b:=jq (H8.out.here hb);clear hb H8;go_wp2_with fail
 refine(HRD.out _).mono ?_;rintro e w9 ⟨rfl,hb⟩;unfold Qq S;have H9:=jq (H8b.out.here hb);have z0:=H9.out.c.cells.1;have z1:=H9.out.c.cells.2;have f0:=H9.out.c.frozen 0;have f1:=H9.out.c.frozen 1;go_wp2_with fail
 refine bodyPost_ret (v:=.agg #[.string ⟨res.n.toArray⟩,.string ⟨res.d.toArray⟩]) (by simp[results,Tryz.results103,go_sem,z0,z1]) rfl ?_;rw[HPO.out];exact⟨rfl,(H9.out.bl.setCell (p:=⟨w.1.size+1+1,0,none⟩) (by simp only;omega) _).setCell (p:=⟨w.1.size+1+1,1,none⟩) (by simp only;omega) _⟩
theorem Zf6(f h:Fr)(w:World)(hf:f.Sz 20000)(hh:h.Sz 20000):Calls Tryz.prog 32 #[Qq f,Qq h] w (Qh (Qd (f.rat*h.rat)) w):=by
 have HR1:=jq (fun W=>Yk f W (hf.more (by omega)));have HR2:=jq (fun W=>Yk h W (hh.more (by omega)));obtain⟨fn,fd⟩:=f.raw_sz hf (by omega)
 obtain⟨hn,hd⟩:=h.raw_sz hh (by omega)
 have fp:=f.raw_pos;have hp:=h.raw_pos;have HM1:=jq (fun W=>Yj f.raw.n h.raw.n W (by omega) (by omega));have HM3:=jq (fun W=>Yj f.raw.d h.raw.d W (by omega) (by omega));have HRD:=jq (fun W=>Yl (Qa (val f.raw.n*val h.raw.n)) (Qa (val f.raw.d*val h.raw.d)) W (by have:=Xq fn hn;omega) (by have:=Xq fd hd;omega) (by rw[Qc];exact Int.mul_pos fp hp));rw[ZmS _ _ fp hp,f.raw_rat',h.raw_rat'] at HRD;have HPO:=jq (show Qh (Qd (f.rat*h.rat)) w=fun e w'=>e=.returned (Qq (Qd (f.rat*h.rat)))/\Below w.1.size w w' from rfl);generalize Qh (Qd (f.rat*h.rat)) w=post at*;have H3:=jq (Fr3.new w f h);obtain⟨x0,x1,y0,y1⟩:=H3.out.held
 generalize Qd (f.rat*h.rat)=res at*;clear fn fd hn hd fp hp;generalize f.raw=x at*;generalize h.raw=y at*;clear hf hh;unfold Qq at*
 unfold S at*
 go_enter Tryz.func32,Tryz.ntmps32
 go_wp2_with fail
 generalize (((w.alloc (.cells #[.string ⟨f.n.toArray⟩,.string ⟨f.d.toArray⟩] 26)).alloc (.cells #[.string ⟨h.n.toArray⟩,.string ⟨h.d.toArray⟩] 26)).alloc (.cells #[.string ⟨#[]⟩,.string ⟨#[]⟩] 26))=W0 at*;refine(HR1.out _).mono ?_;rintro e w1 ⟨rfl,hb1⟩;unfold S;have H4:=jq (H3.out.here hb1);clear x0 x1 y0 y1 HR1 H3;obtain⟨x0,x1,y0,y1⟩:=H4.out.held
 go_wp2_with fail
 refine(HR2.out _).mono ?_;rintro e w2 ⟨rfl,hb2⟩;unfold S;have H5:=jq (H4.out.here hb2);clear x0 x1 y0 y1 HR2 H4 hb1 hb2;go_wp2_with fail
 refine(HM1.out _).mono ?_;rintro e w3 ⟨rfl,hb⟩
 try unfold S
 have H6:=jq (H5.out.here hb);clear hb H5;go_wp2_with fail
 refine(HM3.out _).mono ?_;rintro e w6 ⟨rfl,hb⟩
 try unfold S
 have H8b:=jq (H6.out.here hb);clear hb H6;go_wp2_with fail
 refine(HRD.out _).mono ?_;rintro e w9 ⟨rfl,hb⟩;unfold Qq S;have H9:=jq (H8b.out.here hb);have z0:=H9.out.c.cells.1;have z1:=H9.out.c.cells.2;have f0:=H9.out.c.frozen 0;have f1:=H9.out.c.frozen 1;go_wp2_with fail
 refine bodyPost_ret (v:=.agg #[.string ⟨res.n.toArray⟩,.string ⟨res.d.toArray⟩]) (by simp[results,Tryz.results32,go_sem,z0,z1]) rfl ?_;rw[HPO.out];exact⟨rfl,(H9.out.bl.setCell (p:=⟨w.1.size+1+1,0,none⟩) (by simp only;omega) _).setCell (p:=⟨w.1.size+1+1,1,none⟩) (by simp only;omega) _⟩
theorem Xh(f h:Fr)(w:World)(hf:f.Sz 20000)(hh:h.Sz 20000):Calls Tryz.prog 58 #[Qq f,Qq h] w (Qn (QK f.rat h.rat) w):=by
 have HR1:=jq (fun W=>Yk f W (hf.more (by omega)));have HR2:=jq (fun W=>Yk h W (hh.more (by omega)));obtain⟨fn,fd⟩:=f.raw_sz hf (by omega)
 obtain⟨hn,hd⟩:=h.raw_sz hh (by omega)
 have fp:=f.raw_pos;have hp:=h.raw_pos;have HM1:=jq (fun W=>Yj f.raw.n h.raw.d W (by omega) (by omega));have HM3:=jq (fun W=>Yj h.raw.n f.raw.d W (by omega) (by omega));have HCM:=jq (fun W=>QX (Qa (val f.raw.n*val h.raw.d)) (Qa (val h.raw.n*val f.raw.d)) W (by have:=Xq fn hd;omega) (by have:=Xq hn fd;omega));rw[ZmQ _ _ fp hp,f.raw_rat',h.raw_rat'] at HCM;have HPO:=jq (show Qn (QK f.rat h.rat) w=fun e w'=>e=.returned (.int .i64 (QK f.rat h.rat))/\Below w.1.size w w' from rfl);generalize Qn (QK f.rat h.rat) w=post at*;have H3:=jq (Fr2.new w f h);obtain⟨x0,x1,y0,y1⟩:=H3.out.held
 generalize QK f.rat h.rat=res at*;clear fn fd hn hd fp hp;generalize f.raw=x at*;generalize h.raw=y at*;clear hf hh;unfold Qq at*
 unfold S at*
 go_enter Tryz.func58,Tryz.ntmps58
 go_wp2_with fail
 generalize ((w.alloc (.cells #[.string ⟨f.n.toArray⟩,.string ⟨f.d.toArray⟩] 26)).alloc (.cells #[.string ⟨h.n.toArray⟩,.string ⟨h.d.toArray⟩] 26))=W0 at*;refine(HR1.out _).mono ?_;rintro e w1 ⟨rfl,hb1⟩;unfold S;have H4:=jq (H3.out.here hb1);clear x0 x1 y0 y1 HR1 H3;obtain⟨x0,x1,y0,y1⟩:=H4.out.held
 go_wp2_with fail
 refine(HR2.out _).mono ?_;rintro e w2 ⟨rfl,hb2⟩;unfold S;have H5:=jq (H4.out.here hb2);clear x0 x1 y0 y1 HR2 H4 hb1 hb2;go_wp2_with fail
 refine(HM1.out _).mono ?_;rintro e w3 ⟨rfl,hb⟩
 try unfold S
 have H6:=jq (H5.out.here hb);clear hb H5;go_wp2_with fail
 refine(HM3.out _).mono ?_;rintro e w6 ⟨rfl,hb⟩
 try unfold S
 have H8b:=jq (H6.out.here hb);clear hb H6;go_wp2_with fail
 refine(HCM.out _).mono ?_;rintro e w9 ⟨rfl,rfl⟩;go_wp2_with fail
 first|go_ret|skip
 rw[HPO.out];exact⟨rfl,H8b.out.bl⟩
end
section
theorem VH(a:List UInt8)(w:World)(ha:a.length<=50000):Calls Tryz.prog 33 #[S a] w (Qh (Qd ((val a:Int):Rat)) w):=by
 have HO:=jq (fun W=>ZcZ W);have HRD:=jq (fun W=>Yl a [49] W ha (by simp) (by decide));rw[show Rat.divInt (val a) (val [49])=((val a:Int):Rat) by rw[show val [49]=1 from by decide];exact XU _] at HRD;have HPO:=jq (show Qh (Qd ((val a:Int):Rat)) w=fun e w'=>e=.returned (Qq (Qd ((val a:Int):Rat)))/\Below w.1.size w w' from rfl);generalize Qh (Qd ((val a:Int):Rat)) w=post at*;generalize Qd ((val a:Int):Rat)=res at*;have HB:=jq (show FrB (w.alloc (.cells #[.string ⟨#[]⟩,.string ⟨#[]⟩] 26)) w.1.size Fr.zero from FrB.new w Fr.zero);have HBA:=jq (show Below w.1.size w (w.alloc (.cells #[.string ⟨#[]⟩,.string ⟨#[]⟩] 26)) from(Below.refl _ _).alloc (Nat.le_refl _) _);clear ha;unfold Qh Qq at*
 unfold S at*
 go_enter Tryz.func33,Tryz.ntmps33
 go_wp2_with fail
 generalize w.alloc _=W at*;refine(HO.out _).mono ?_;rintro e w1 ⟨rfl,rfl⟩;go_wp2_with fail
 refine(HRD.out _).mono ?_;rintro e w2 ⟨rfl,hb2⟩;have H9:=jq (HB.out.here hb2);have HB9:=jq (HBA.out.trans (hb2.mono HBA.out.size));have z0:=H9.out.cells.1;have z1:=H9.out.cells.2;have f0:=H9.out.frozen 0;have f1:=H9.out.frozen 1;go_wp2_with fail
 refine bodyPost_ret (v:=.agg #[.string ⟨res.n.toArray⟩,.string ⟨res.d.toArray⟩]) (by simp[results,Tryz.results33,go_sem,z0,z1]) rfl ?_;rw[HPO.out];exact⟨rfl,(HB9.out.setCell (p:=⟨w.1.size,0,none⟩) (Nat.le_refl _) _).setCell (p:=⟨w.1.size,1,none⟩) (Nat.le_refl _) _⟩
theorem Zoj{k:Int}(h:k<=0):¬0<Qt k:=by
 unfold Qt
 split
 ·omega
 ·split<;>omega
theorem Jw(f:Fr)(w:World)(hf:f.Sz 30000):Calls Tryz.prog 59 #[Qq f] w (Qo (Qa (QW f.rat)) w):=by
 have HR:=jq (fun W=>Yk f W (hf.more (by omega)));obtain⟨fn,fd⟩:=f.raw_sz hf (by omega)
 have hd0:=f.raw_pos;have hq:(val f.raw.n).fdiv (val f.raw.d)=QW f.rat:=by rw[Za1 _ _ (by omega),f.raw_rat]
 have HD:=jq (fun W=>ZcY f.raw.n f.raw.d W (by omega) (by omega))
 have hql:(Qa ((val f.raw.n).fdiv (val f.raw.d))).length<=60000:=by
  obtain⟨K,hK⟩:∃K:Nat,K=30001:=⟨_,rfl⟩
  rw[show 30000+1=K from hK.symm] at fn
  have h1:((val f.raw.n).fdiv (val f.raw.d)).natAbs<10^(K+1):=by
   have h2:=Qv fn
   have h3:((val f.raw.n).fdiv (val f.raw.d)).natAbs<=(val f.raw.n).natAbs+1:=by
    have:=Int.natAbs_fdiv_le_natAbs (val f.raw.n) (val f.raw.d)
    omega
   have h5:1<=10^K:=Nat.one_le_pow _ _ (by omega);rw[Nat.pow_succ];generalize 10^K=P at*;omega
  have:=Qg h1
  omega
 have HM:=jq (fun W=>Yj (Qa ((val f.raw.n).fdiv (val f.raw.d))) f.raw.d W (by omega) (by omega));rw[Qc] at HM
 have hle:((val f.raw.n).fdiv (val f.raw.d))*val f.raw.d<=val f.raw.n:=by
  have h1:=Int.mul_fdiv_add_fmod (val f.raw.n) (val f.raw.d);have h2:=Int.fmod_nonneg_of_pos (val f.raw.n) hd0;rw[Int.mul_comm] at h1;omega
 have hml:(Qa ((val f.raw.n).fdiv (val f.raw.d)*val f.raw.d)).length<=200000:=by
  have:=Xq (a:=Qa ((val f.raw.n).fdiv (val f.raw.d))) (b:=f.raw.d) (L:=60000) hql (by omega)
  rw[Qc] at this;omega
 have HCM:=jq (fun W=>QX (Qa ((val f.raw.n).fdiv (val f.raw.d)*val f.raw.d)) f.raw.n W (by omega) (by omega));rw[Qc] at HCM;have HSG:=jq (Zoj (k:=(val f.raw.n).fdiv (val f.raw.d)*val f.raw.d-val f.raw.n) (by omega));have HPO:=jq (show Qo (Qa (QW f.rat)) w=fun e w'=>e=.returned (S (Qa ((val f.raw.n).fdiv (val f.raw.d))))/\Below w.1.size w w' by rw[hq];rfl);generalize Qo (Qa (QW f.rat)) w=post at*;have HB:=jq (FrB.new w f);have HBA:=jq (show Below w.1.size w (w.alloc (.cells #[.string ⟨f.n.toArray⟩,.string ⟨f.d.toArray⟩] 26)) from(Below.refl _ _).alloc (Nat.le_refl _) _);obtain⟨x0,x1⟩:=HB.out.cells
 have HD0:=jq (show val f.raw.d≠0 by omega);clear hf fn fd hd0 hq hql hle hml;generalize Qt ((val f.raw.n).fdiv (val f.raw.d)*val f.raw.d-val f.raw.n)=sg at*;generalize Qa ((val f.raw.n).fdiv (val f.raw.d)*val f.raw.d)=pt at*;unfold Qo QQ Qq at*
 unfold S at*
 go_enter Tryz.func59,Tryz.ntmps59
 go_wp2_with fail
 generalize w.alloc _=W at*;refine(HR.out _).mono ?_;rintro e w1 ⟨rfl,hb1⟩;go_wp2_with fail
 refine(HD.out _).mono ?_;intro e w2 h2;obtain⟨rfl,hb2⟩:=Va HD0.out h2
 clear h2;generalize Qa ((val f.raw.n).fdiv (val f.raw.d))=qt at*;go_wp2_with fail
 refine(HM.out _).mono ?_;rintro e w3 ⟨rfl,hb3⟩;go_wp2_with fail
 refine(HCM.out _).mono ?_;rintro e w4 ⟨rfl,rfl⟩;have hsg:=HSG.out;go_wp2_with fail
 first|go_ret|skip
 rw[HPO.out];exact⟨rfl,HBA.out.trans ((hb1.trans ((hb2.trans (hb3.mono hb2.size)).mono hb1.size)).mono HBA.out.size)⟩
end
section
end
section
theorem Zok{q:Rat}{L:Nat}(h:RB L q):RB L (-q):=by
 unfold RB at*
 rw[Rat.neg_num,Rat.neg_den,Int.natAbs_neg];exact h
theorem Zbl(f h:Fr)(w:World)(hf:f.Sz 19999)(hh:h.Sz 19999):Calls Tryz.prog 60 #[Qq f,Qq h] w (Qh (Qd (f.rat-h.rat)) w):=by
 have HN:=jq (fun W=>Zlj h W (hh.more (by omega)))
 have hz:(Qd (-h.rat)).Sz 20000:=by
  obtain⟨K,hK⟩:∃K:Nat,K=19999:=⟨_,rfl⟩
  rw[<-hK] at hh;have:=QV (Zok (Zcq hh (by omega)))
  rwa [hK] at this
 have HA:=jq (fun W=>Zlk f (Qd (-h.rat)) W (hf.more (by omega)) hz);rw[Qj,<-Rat.sub_eq_add_neg] at HA;have HPO:=jq (show Qh (Qd (f.rat-h.rat)) w=fun e w'=>e=.returned (Qq (Qd (f.rat-h.rat)))/\Below w.1.size w w' from rfl);generalize Qh (Qd (f.rat-h.rat)) w=post at*;generalize Qd (f.rat-h.rat)=res at*;generalize Qd (-h.rat)=ng at*;have H3:=jq (Fr3.new w f h);obtain⟨x0,x1,y0,y1⟩:=H3.out.held
 clear hf hh hz;unfold Qq at*
 unfold S at*
 go_enter Tryz.func60,Tryz.ntmps60
 go_upto_region 1 with (fail)
 generalize (((w.alloc (.cells #[.string ⟨f.n.toArray⟩,.string ⟨f.d.toArray⟩] 26)).alloc (.cells #[.string ⟨h.n.toArray⟩,.string ⟨h.d.toArray⟩] 26)).alloc (.cells #[.string ⟨#[]⟩,.string ⟨#[]⟩] 26))=W at*
 go_region_held3 (fun w'=>w'.cell? ⟨w.1.size,0,none⟩=some (.string ⟨f.n.toArray⟩)/\w'.cell? ⟨w.1.size,1,none⟩=some (.string ⟨f.d.toArray⟩)/\w'.cell? ⟨w.1.size+1,0,none⟩=some (.string ⟨h.n.toArray⟩)/\w'.cell? ⟨w.1.size+1,1,none⟩=some (.string ⟨h.d.toArray⟩))
  (first
    |exact(H3.out.here hz2).heldS _ _
    |exact(H3.out.here hz2).held
    |exact(H3.out.here hz).held
    |go_keep)
  (first
    |(go_at_call 104;refine(HN.out _).mono ?_;rintro e w1 ⟨rfl,hb1⟩;unfold Qq S;have hz:Below W.1.size W w1:=(Below.refl _ W).drew.trans hb1)
    |(go_at_call 103;refine(HA.out _).mono ?_;rintro e w2 ⟨rfl,hb2⟩;unfold Qq S;have hz2:=hz.trans (hb2.mono hz.size);have z0:=(H3.out.here hz2).c.cells.1;have z1:=(H3.out.here hz2).c.cells.2;have f0:=(H3.out.here hz2).c.frozen 0;have f1:=(H3.out.here hz2).c.frozen 1))
 all_goals
  go_wp2_with fail
  refine bodyPost_ret (v:=.agg #[.string ⟨res.n.toArray⟩,.string ⟨res.d.toArray⟩]) (by simp[results,Tryz.results60,go_sem,z0,z1]) rfl ?_;rw[HPO.out];exact⟨rfl,((H3.out.here hz2).bl.setCell (p:=⟨w.1.size+1+1,0,none⟩) (by simp only;omega) _).setCell (p:=⟨w.1.size+1+1,1,none⟩) (by simp only;omega) _⟩
end
end Go.Proofs.YtkddgeclncafoaaGreatDoor
