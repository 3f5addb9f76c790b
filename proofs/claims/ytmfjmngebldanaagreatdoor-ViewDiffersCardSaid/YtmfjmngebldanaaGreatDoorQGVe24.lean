/- R19, RF1, RF2, RF3. -/
import Derived.Test.YtmfjmngebldanaaGreatDoorQGVe23
import Derived.Test.YtmfjmngebldanaaGreatDoorQGVe5
set_option maxRecDepth 20000
set_option maxHeartbeats 1000000
namespace Go.Proofs.YtmfjmngebldanaaGreatDoor
open Go.Lib renaming hid→jq
open Go.RowKit Go.Shelf
section
def ZkQ(v:Value):Nat:=match v with| .string b=>(val b.data.toList).natAbs|_=>0
theorem Zhr(l:List UInt8):ZkQ (.string ⟨l.toArray⟩)=(val l).natAbs:=by simp[ZkQ]
theorem Zhs(a:List UInt8):Qe ((Qh (Qf a).1:Nat):Int)=(Qf a).1:=by
 rw[ZbS,Jv (XE a).1 (XE a).2.1]
theorem Zme{m n L:Nat}(hn:n≠0)(h:(Qe (n:Int)).length<=L):(Qe ((m%n:Nat):Int)).length<=L:=by
 rw[ZbS] at h ⊢;refine Nat.le_trans (VS (L:=(QU n).length) ?_) h;have h1:=Xs (Zao n);rw[ZaS] at h1;have:=Nat.mod_lt m (Nat.pos_of_ne_zero hn)
 omega
theorem ZkR(m n:Nat):Int.fmod (m:Int) (n:Int)=((m%n:Nat):Int):=by
 rw[Int.fmod_eq_emod_of_nonneg _ (by omega)];simp
theorem ZkS(a b:List UInt8)(w:World)(ha:a.length<=100000)(hb:b.length<=100000):Calls Tryz.prog 252 #[S a,S b] w (QD (Qe (Int.gcd (val a) (val b):Nat)) w):=by
 have HDa:=jq (Xo a w (by omega));have HDb:=jq (Xo b w (by omega));have HPO:=jq (show QD (Qe (Int.gcd (val a) (val b):Nat)) w=fun e w'=>e=.returned (S (Qe (Int.gcd (val a) (val b):Nat)))/\Below w.1.size w w' from rfl);have HGV:=jq (Zg1 a b);have HLA:=jq (Nat.le_trans (Xv a) ha);have HLB:=jq (Nat.le_trans (Xv b) hb);rw[<-Zhs a] at HDa HLA;rw[<-Zhs b] at HDb HLB;generalize QD (Qe (Int.gcd (val a) (val b):Nat)) w=post at*;generalize Int.gcd (val a) (val b)=G at*;generalize Qh (Qf a).1=u at*;generalize Qh (Qf b).1=v at*;generalize (Qf a).2=na at*;generalize (Qf b).2=nb at*;clear ha hb;unfold S at*
 go_enter Tryz.func252,Tryz.ntmps252
 go_wp2_with fail
 refine HDa.out.mono ?_;rintro e w1 ⟨rfl,rfl⟩;go_wp2_with fail
 refine HDb.out.mono ?_;rintro e w1 ⟨rfl,rfl⟩;go_wp2_with fail
 go_loopw [9,10] (fun s t wr=>∃m n:Nat,s=.string ⟨(Qe (m:Int)).toArray⟩/\t=.string ⟨(Qe (n:Int)).toArray⟩/\Hid (Nat.gcd m n=G)/\Hid ((Qe (m:Int)).length<=100000)/\Hid ((Qe (n:Int)).length<=100000)/\Below w.1.size w wr) (fun _ t _=>ZkQ t)
 case atStart=>exact⟨u,v,rfl,rfl,HGV,HLA,HLB,Below.refl _ _⟩
 case round=>
  clear HDa HDb HGV HLA HLB;obtain⟨m,n,rfl,rfl,HG,HM,HN,hbl⟩:=hrel
  by_cases hn:n=0
  ·subst hn;have HGm:=jq (show m=G by have:=HG.out;rwa [Nat.gcd_zero_right] at this);have hz:Qe ((0:Nat):Int)=[]:=rfl;rw[hz];clear HG HM HN;go_wp2_with fail
   first|go_ret|skip
   rw[HPO.out,HGm.out];exact⟨rfl,hbl⟩
  ·have hne:(Qe (n:Int)==[])=false:=by
    rw[Bool.eq_false_iff];intro h;have:=ZiY.1 (eq_of_beq h)
    omega
   have HDV:=jq (Zfo (Qe (m:Int)) (Qe (n:Int)) wr HM.out HN.out);rw[Qm,Qm] at HDV;have HNE:=jq hn
   have HME:=jq (show ZkQ (.string ⟨(Qe ((m%n:Nat):Int)).toArray⟩)<ZkQ (.string ⟨(Qe (n:Int)).toArray⟩) by
    rw[Zhr,Zhr,Qm,Qm];have:=Nat.mod_lt m (Nat.pos_of_ne_zero hn)
    omega)
   have HFM:=jq (ZkR m n);clear hn;unfold S at*
   go_wp2_with fail
   refine HDV.out.mono ?_;intro e w1 h1;obtain⟨rfl,hb1⟩:=ZbE (by have:=HNE.out;omega) h1
   clear h1;rw[HFM.out];go_wp2_with fail
   go_roundw
   case rel=>exact⟨n,m%n,rfl,rfl,by show _=_;rw[<-HG.out,Nat.gcd_comm m n,Nat.gcd_rec n m,Nat.gcd_comm],HN,Zme HNE.out HN.out,hbl.trans (hb1.mono hbl.size)⟩
   case measure=>exact HME.out
end
section
def Fr.raw(f:Fr):Fr:=⟨if val f.d<0 then Qe (-val f.n) else f.n,if val f.d=0 then[49] else if val f.d<0 then Qe (-val f.d) else f.d⟩
theorem Fr.raw_pos(f:Fr):0<val f.raw.d:=by
 unfold Fr.raw;simp only
 split
 ·rw[VE];omega
 ·split
  ·rw[Qm];omega
  ·omega
theorem Fr.raw_dv(f:Fr):f.raw.dv=val f.raw.d:=by
 have:=f.raw_pos
 unfold Fr.dv;rw[if_neg (by omega)]
theorem Fr.raw_rat(f:Fr):Rat.divInt (val f.raw.n) (val f.raw.d)=f.rat:=by
 unfold Fr.raw Fr.rat Fr.dv;simp only
 by_cases h0:val f.d=0
 ·rw[if_pos h0,if_pos h0,if_neg (by omega),VE]
 ·rw[if_neg h0,if_neg h0]
  by_cases h1:val f.d<0
  ·rw[if_pos h1,if_pos h1,Qm,Qm,Rat.neg_divInt_neg]
  ·rw[if_neg h1,if_neg h1]
theorem Fr.raw_rat'(f:Fr):f.raw.rat=f.rat:=by
 have:=f.raw_rat
 rw[<-f.raw_dv] at this;exact this
theorem Fr.raw_sz{f:Fr}{L:Nat}(h:f.Sz L)(_hL:1<=L):f.raw.Sz (L+1):=by
 have h1:=JS f.n;have h2:=JS f.d;have h3:=h.1;have h4:=h.2;have e1:=QP (n:= -val f.n) (L:=f.n.length) (by omega);have e2:=QP (n:= -val f.d) (L:=f.d.length) (by omega);unfold Fr.raw
 constructor
 ·simp only
  split<;>omega
 ·simp only
  split
  ·simp
  ·split<;>omega
theorem Zbc(a:List UInt8)(w:World)(ha:a.length<=100000000):Calls Tryz.prog 185 #[S a] w fun e w'=>e=.returned (.bool (decide (val a=0)))/\w=w':=by
 have HC:=jq (XJ a [] w ha (by simp));rw[VA,Int.sub_zero] at HC;have HE:=jq (Zjg (val a));generalize QM (val a)=z at*;generalize decide (val a=0)=bb at*;clear ha;unfold S at*
 go_enter Tryz.func185,Tryz.ntmps185
 go_wp2_with fail
 refine HC.out.mono ?_;rintro e w1 ⟨rfl,rfl⟩;go_wp2_with fail
 go_ret
 exact⟨Qd HE.out,rfl⟩
theorem Zfp(w:World):Calls Tryz.prog 186 #[] w fun e w'=>e=.returned (S [49])/\w=w':=by
 have HC:=jq (ZaL 1 (by omega) (by omega) w);rw[Zat] at HC;unfold S at*
 go_enter Tryz.func186,Tryz.ntmps186
 go_wp2_with fail
 refine HC.out.mono ?_;rintro e w1 ⟨rfl,rfl⟩;go_wp2_with fail
 go_ret
 exact⟨rfl,rfl⟩
theorem ZcG(f:Fr)(w:World)(hf:f.Sz 100000):Calls Tryz.prog 155 #[Xg f] w (XF f.raw.n f.raw.d w):=by
 have hbA:Below w.1.size w (w.alloc (.cells #[.string ⟨f.n.toArray⟩,.string ⟨f.d.toArray⟩] 39)):=(Below.refl _ _).alloc (Nat.le_refl _) _;have HZ:=jq (fun W=>Zbc f.d W (by have:=hf.2;omega));have HO:=jq (fun W=>Zfp W);have HCM:=jq (fun W=>XJ f.d [] W (by have:=hf.2;omega) (by simp));rw[VA,Int.sub_zero] at HCM;have HN1:=jq (fun W=>Zfj f.n W (by have:=hf.1;omega));have HN2:=jq (fun W=>Zfj f.d W (by have:=hf.2;omega));have HPO:=jq (show XF f.raw.n f.raw.d w=fun e w'=>e=.returned (.tuple #[S f.raw.n,S f.raw.d])/\Below w.1.size w w' from rfl);have HB:=jq (FrB.new w f);have HBA:=jq hbA;generalize XF f.raw.n f.raw.d w=post at*;obtain⟨c0,c1⟩:=HB.out.cells
 clear hbA hf;unfold Fr.raw at HPO;unfold S Xg at*
 unfold S;go_enter Tryz.func155,Tryz.ntmps155
 go_wp2_with fail
 generalize w.alloc _=W at*
 by_cases h0:val f.d=0
 ·rw[show decide (val f.d=0)=true by simp[h0]] at HZ;rw[if_pos h0,if_neg (by omega)] at HPO;clear h0 HCM HN1 HN2;refine(HZ.out _).mono ?_;rintro e w1 ⟨rfl,rfl⟩;go_wp2_with fail
  go_quiet ((go_at_call 186;exact Calls.quiet_of_same ((HO.out _).mono (fun e w' h=>And.intro h.1 h.2.symm))))
  go_wp2_with fail
  rw[HPO.out];exact⟨rfl,JI HBA.out _⟩
 ·rw[show decide (val f.d=0)=false by simp[h0]] at HZ;rw[if_neg h0] at HPO;refine(HZ.out _).mono ?_;rintro e w1 ⟨rfl,rfl⟩
  by_cases h1:val f.d<0
  ·rw[show QM (val f.d)= -1 by unfold QM;rw[if_pos h1]] at HCM;rw[if_pos h1,if_pos h1] at HPO;clear h0 h1;go_wp2_with fail
   refine(HCM.out _).mono ?_;rintro e w1 ⟨rfl,rfl⟩;go_wp2_with fail
   go_quiet (first|(go_at_call_of 187 (Value.string ⟨f.n.toArray⟩);exact Calls.quiet_of_same ((HN1.out _).mono (fun e w' h=>And.intro h.1 h.2.symm)))|(go_at_call_of 187 (Value.string ⟨f.d.toArray⟩);exact Calls.quiet_of_same ((HN2.out _).mono (fun e w' h=>And.intro h.1 h.2.symm))))
   go_wp2_with fail
   rw[HPO.out];exact⟨rfl,JI HBA.out _⟩
  ·rw[show QM (val f.d)=1 by unfold QM;rw[if_neg h1,if_pos (by omega)]] at HCM;rw[if_neg h1,if_neg h1] at HPO;clear h0 h1;go_wp2_with fail
   refine(HCM.out _).mono ?_;rintro e w1 ⟨rfl,rfl⟩;go_wp2_with fail
   go_quiet (fail)
   go_wp2_with fail
   rw[HPO.out];exact⟨rfl,JI HBA.out _⟩
theorem ZcH(a b:List UInt8)(w:World)(ha:a.length<=100000)(hb:b.length<=100000)(h0:val b≠0):Calls Tryz.prog 253 #[S a,S b] w (QD (Qe ((val a).fdiv (val b))) w):=by
 have HD:=jq (Zfo a b w ha hb);have HPO:=jq (show QD (Qe ((val a).fdiv (val b))) w=fun e w'=>e=.returned (S (Qe ((val a).fdiv (val b))))/\Below w.1.size w w' from rfl);generalize QD (Qe ((val a).fdiv (val b))) w=post at*;unfold S at*
 go_enter Tryz.func253,Tryz.ntmps253
 go_wp2_with fail
 refine HD.out.mono ?_;intro e w1 h1;obtain⟨rfl,hb1⟩:=ZbE h0 h1
 clear h1;go_wp2_with fail
 first|go_ret|skip
 rw[HPO.out];exact⟨rfl,hb1⟩
end
section
theorem Zgp{w W:World}{p:Nat}(h:Below w.1.size w W)(hp:w.1.size<p)(u v t:Value):Below w.1.size w (((W.setCell ⟨p,1,none⟩ u).setCell ⟨w.1.size,0,none⟩ v).setCell ⟨w.1.size,1,none⟩ t):=
 ((h.setCell (p:=⟨p,1,none⟩) (Nat.le_of_lt hp) _).setCell (p:=⟨w.1.size,0,none⟩) (Nat.le_refl _) _).setCell (p:=⟨w.1.size,1,none⟩) (Nat.le_refl _) _
theorem Zef(n d:List UInt8)(w:World)(hn:n.length<=50000)(hd:d.length<=50000)(hd0:0<val d):
 Calls Tryz.prog 218 #[S n,S d] w (QS (QJ (Rat.divInt (val n) (val d))) w):=by
 have HZ:=jq (fun W=>Zbc n W (by omega));have HGC:=jq (fun W=>ZkS n d W (by omega) (by omega));have HGL:=jq (Zg2 (val n) (d:=d) (by omega));have HGP:=jq (ZgR (val n) (val d) (by omega));have HR1:=jq (ZgP (val n) (val d) hd0);have HR2:=jq (ZgQ (val n) (val d) hd0);have HQ0:=jq (show val n=0->Xg (QJ (Rat.divInt (val n) (val d)))=Xg Fr.zero by intro h;rw[h,Rat.zero_divInt];rfl)
 have HQL:=jq (show(Qe (Rat.divInt (val n) (val d)).den).length<=50001 by
  obtain⟨K,hK⟩:∃K:Nat,K=50000:=⟨_,rfl⟩
  rw[<-hK] at hd;have:=QP (n:=((Rat.divInt (val n) (val d)).den:Int)) (L:=K) (Nat.lt_of_le_of_lt (by have:=JM (val n) (val d) (by omega);simpa using this) (Yk hd))
  omega)
 have HB:=jq (show FrB (w.alloc (.cells #[.string ⟨#[]⟩,.string ⟨#[]⟩] 39)) w.1.size Fr.zero from FrB.new w Fr.zero);have HBA:=jq (show Below w.1.size w (w.alloc (.cells #[.string ⟨#[]⟩,.string ⟨#[]⟩] 39)) from(Below.refl _ _).alloc (Nat.le_refl _) _);have HPO:=jq (show QS (QJ (Rat.divInt (val n) (val d))) w=fun e w'=>e=.returned (Xg (QJ (Rat.divInt (val n) (val d))))/\Below w.1.size w w' from rfl);have HN:=jq hn;have HD:=jq hd;generalize QS (QJ (Rat.divInt (val n) (val d))) w=post at*;generalize Rat.divInt (val n) (val d)=q at*;generalize Int.gcd (val n) (val d)=g at*;have HV1:=jq (fun W=>ZcH n (Qe (g:Int)) W (by have:=HN.out;omega) (by have:=HGL.out;have:=HD.out;omega) (by rw[Qm];have:=HGP.out;omega));have HV2:=jq (fun W=>ZcH d (Qe (g:Int)) W (by have:=HD.out;omega) (by have:=HGL.out;have:=HD.out;omega) (by rw[Qm];have:=HGP.out;omega));rw[Qm,HR1.out] at HV1;rw[Qm,HR2.out] at HV2;have HO:=jq (fun W=>Zfp W);have HCM:=jq (fun W=>XJ (Qe (q.den:Int)) [49] W (by have:=HQL.out;omega) (by simp));rw[Qm,VE] at HCM;clear hn hd hd0 HR1 HR2 HGP HGL HN HD HQL;unfold S at*
 go_enter Tryz.func218,Tryz.ntmps218
 go_wp2_with fail
 generalize w.alloc _=W at*
 by_cases h0:val n=0
 ·rw[show decide (val n=0)=true by simp[h0]] at HZ;have HF:=jq (HQ0.out h0);obtain⟨c0,c1⟩:=HB.out.cells
  have f0:=HB.out.frozen 0;have f1:=HB.out.frozen 1;clear h0 HQ0 HV1 HV2 HCM HGC HO;refine(HZ.out _).mono ?_;rintro e w1 ⟨rfl,rfl⟩;go_wp2_with fail
  refine bodyPost_ret (v:=.agg #[.string ⟨#[]⟩,.string ⟨#[]⟩]) (by simp[results,Tryz.results218,go_sem,c0,c1]) rfl ?_;rw[HPO.out,HF.out];exact⟨rfl,(HBA.out.setCell (p:=⟨w.1.size,0,none⟩) (Nat.le_refl _) _).setCell (p:=⟨w.1.size,1,none⟩) (Nat.le_refl _) _⟩
 ·rw[show decide (val n=0)=false by simp[h0]] at HZ;clear h0 HQ0;refine(HZ.out _).mono ?_;rintro e w1 ⟨rfl,rfl⟩;go_wp2_with fail
  refine(HGC.out _).mono ?_;rintro e w2 ⟨rfl,hb2⟩;have HB2:=jq (HB.out.here hb2);unfold S;go_wp2_with fail
  refine(HV1.out _).mono ?_;rintro e w3 ⟨rfl,hb3⟩;have HB3:=jq (HB2.out.here hb3);unfold S;go_wp2_with fail
  refine(HV2.out _).mono ?_;rintro e w4 ⟨rfl,hb4⟩;have HB4:=jq (HB3.out.here hb4);unfold S;have hb03:=HBA.out.trans ((hb2.trans ((hb3.trans (hb4.mono hb3.size)).mono hb2.size)).mono HBA.out.size);have hbX:=(Below.refl w4.1.size w4).alloc (Nat.le_refl _) (.cells #[.string ⟨(Qe q.num).toArray⟩,.string ⟨(Qe (q.den:Int)).toArray⟩] 39);have HB5:=jq (HB4.out.here hbX);have HG5:=jq (FrB.new w4 ⟨Qe q.num,Qe (q.den:Int)⟩);have HLT:=jq (show w.1.size<w4.1.size from HB4.out.lt);have HBX:=jq (hb03.trans (hbX.mono hb03.size));clear HB HB2 HB3 HB4 hb2 hb3 hb4 hbX HZ HGC HV1 HV2 hb03;go_upto_region 5 with (fail)
  obtain⟨g0,g1⟩:=HG5.out.cells
  have gf1:=HG5.out.frozen 1;obtain⟨c0,c1⟩:=HB5.out.cells
  have f0:=HB5.out.frozen 0;have f1:=HB5.out.frozen 1;simp only at g0 g1
  generalize w4.alloc _=W5 at*;have hlt:=HLT.out;have hne1:w.1.size≠w4.1.size:=by omega
  have hne2:w4.1.size≠w.1.size:=by omega
  by_cases h1:q.den=1
  ·have HF:=jq (show Xg (QJ q)=.agg #[.string ⟨(Qe q.num).toArray⟩,.string ⟨#[]⟩] by unfold Xg QJ;simp only[if_pos h1];rfl);rw[show QM ((q.den:Int)-1)=0 by rw[h1];rfl] at HCM;clear h1
   go_quiet (first
    |(go_at_call 186;exact Calls.quiet_of_same ((HO.out _).mono (fun e w' h=>And.intro h.1 h.2.symm)))
    |(go_at_call 152;exact Calls.quiet_of_same ((HCM.out _).mono (fun e w' h=>And.intro h.1 h.2.symm))))
   go_wp2_with fail
   refine bodyPost_ret (v:=.agg #[.string ⟨(Qe q.num).toArray⟩,.string ⟨#[]⟩]) (by simp[results,Tryz.results218,go_sem,c0,c1]) rfl ?_;rw[HPO.out,HF.out];exact⟨rfl,Zgp (JI HBX.out _) HLT.out _ _ _⟩
  ·have HF:=jq (show Xg (QJ q)=.agg #[.string ⟨(Qe q.num).toArray⟩,.string ⟨(Qe q.den).toArray⟩] by unfold Xg QJ;simp only[if_neg h1];rfl);rw[show QM ((q.den:Int)-1)=1 by unfold QM;rw[if_neg (by have:=q.den_pos;omega),if_pos (by have:=q.den_pos;omega)]] at HCM;clear h1;generalize Qe (q.den:Int)=t at*
   go_quiet (first
    |(go_at_call 186;exact Calls.quiet_of_same ((HO.out _).mono (fun e w' h=>And.intro h.1 h.2.symm)))
    |(go_at_call 152;exact Calls.quiet_of_same ((HCM.out _).mono (fun e w' h=>And.intro h.1 h.2.symm))))
   go_wp2_with fail
   refine bodyPost_ret (v:=.agg #[.string ⟨(Qe q.num).toArray⟩,.string ⟨t.toArray⟩]) (by simp[results,Tryz.results218,go_sem,c0,c1]) rfl ?_;rw[HPO.out,HF.out];exact⟨rfl,((JI HBX.out _).setCell (p:=⟨w.1.size,0,none⟩) (Nat.le_refl _) _).setCell (p:=⟨w.1.size,1,none⟩) (Nat.le_refl _) _⟩
structure Fr2 (w:World) (p:Nat) (f h:Fr) (W:World):Prop where
 a:FrB W p f
 b:FrB W (p+1) h
 bl:Below w.1.size w W
theorem Fr2.here{w:World}{p:Nat}{f h:Fr}{W W':World}(H:Fr2 w p f h W)(hb:Below W.1.size W W'):Fr2 w p f h W':=⟨H.a.here hb,H.b.here hb,H.bl.trans (hb.mono H.bl.size)⟩
theorem Fr2.held{w:World}{p:Nat}{f h:Fr}{W:World}(H:Fr2 w p f h W):W.cell? ⟨p,0,none⟩=some (.string ⟨f.n.toArray⟩)/\W.cell? ⟨p,1,none⟩=some (.string ⟨f.d.toArray⟩)/\W.cell? ⟨p+1,0,none⟩=some (.string ⟨h.n.toArray⟩)/\W.cell? ⟨p+1,1,none⟩=some (.string ⟨h.d.toArray⟩):=
 ⟨H.a.cells.1,H.a.cells.2,H.b.cells.1,H.b.cells.2⟩
theorem Fr2.new(w:World)(f h:Fr):Fr2 w w.1.size f h ((w.alloc (.cells #[.string ⟨f.n.toArray⟩,.string ⟨f.d.toArray⟩] 39)).alloc (.cells #[.string ⟨h.n.toArray⟩,.string ⟨h.d.toArray⟩] 39)):=by
 refine⟨(FrB.new w f).alloc _,?_,((Below.refl _ _).alloc (Nat.le_refl _) _).alloc (by simp) _⟩;have:=FrB.new (w.alloc (.cells #[.string ⟨f.n.toArray⟩,.string ⟨f.d.toArray⟩] 39)) h
 simp only[World.size_alloc] at this;exact this
theorem Fr2.newz(w:World)(f:Fr):Fr2 w w.1.size f Fr.zero ((w.alloc (.cells #[.string ⟨f.n.toArray⟩,.string ⟨f.d.toArray⟩] 39)).alloc (.cells #[.string ⟨#[]⟩,.string ⟨#[]⟩] 39)):=Fr2.new w f Fr.zero
theorem Jq(f:Fr)(w:World)(hf:f.Sz 40003):Calls Tryz.prog 192 #[Xg f] w (QS (QJ f.rat) w):=by
 have HR:=jq (fun W=>ZcG f W (hf.more (by omega)));obtain⟨fn,fd⟩:=f.raw_sz hf (by omega)
 have HRD:=jq (fun W=>Zef f.raw.n f.raw.d W (by omega) (by omega) f.raw_pos);rw[f.raw_rat] at HRD;have HPO:=jq (show QS (QJ f.rat) w=fun e w'=>e=.returned (Xg (QJ f.rat))/\Below w.1.size w w' from rfl);generalize QS (QJ f.rat) w=post at*;generalize QJ f.rat=res at*;have H2:=jq (Fr2.newz w f);obtain⟨x0,x1⟩:=H2.out.a.cells
 clear hf fn fd;generalize f.raw=x at*;unfold Xg at*
 unfold S at*
 go_enter Tryz.func192,Tryz.ntmps192
 go_wp2_with fail
 generalize (w.alloc (.cells #[.string ⟨f.n.toArray⟩,.string ⟨f.d.toArray⟩] 39)).alloc (.cells #[.string ⟨#[]⟩,.string ⟨#[]⟩] 39)=W at*;refine(HR.out _).mono ?_;rintro e w1 ⟨rfl,hb1⟩;unfold S;have H3:=jq (H2.out.here hb1);go_wp2_with fail
 refine(HRD.out _).mono ?_;rintro e w2 ⟨rfl,hb2⟩;unfold Xg S;have H9:=jq (H3.out.here hb2);have z0:=H9.out.b.cells.1;have z1:=H9.out.b.cells.2;have f0:=H9.out.b.frozen 0;have f1:=H9.out.b.frozen 1;go_wp2_with fail
 refine bodyPost_ret (v:=.agg #[.string ⟨res.n.toArray⟩,.string ⟨res.d.toArray⟩]) (by simp[results,Tryz.results192,go_sem,z0,z1]) rfl ?_;rw[HPO.out];exact⟨rfl,(H9.out.bl.setCell (p:=⟨w.1.size+1,0,none⟩) (by simp only;omega) _).setCell (p:=⟨w.1.size+1,1,none⟩) (by simp only;omega) _⟩
theorem Zgq(f:Fr)(w:World)(hf:f.Sz 40000):Calls Tryz.prog 184 #[Xg f] w (QR (JK f) w):=by
 have HC:=jq (fun W=>Jq f W (hf.more (by omega)));have HPO:=jq (show QR (JK f) w=fun e w'=>e=.returned (.int .i64 (JK f))/\Below w.1.size w w' from rfl);have HCK:=jq (show JK f=if f=QJ f.rat then 0 else 1 from rfl);generalize QR (JK f) w=post at*;generalize QJ f.rat=g at*;have HB:=jq (FrB.new w f);have HBA:=jq (show Below w.1.size w (w.alloc (.cells #[.string ⟨f.n.toArray⟩,.string ⟨f.d.toArray⟩] 39)) from(Below.refl _ _).alloc (Nat.le_refl _) _);obtain⟨x0,x1⟩:=HB.out.cells
 clear hf
 have HEQ:=jq (show JK f=if(f.n==g.n)&&(f.d==g.d) then 0 else 1 by
  rw[HCK.out]
  by_cases h:f=g
  ·subst h;simp
  ·rw[if_neg h,if_neg];intro h2;simp at h2;exact h (Fr.ext_ h2.1 h2.2))
 clear HCK;unfold Xg at*
 unfold S at*
 cases hn:(f.n==g.n)<;>cases hd:(f.d==g.d)
 all_goals
  rw[hn,hd] at HEQ;simp only[Bool.and_true,Bool.and_false,Bool.false_eq_true,if_true,if_false] at HEQ;go_enter Tryz.func184,Tryz.ntmps184
  go_upto_region 1 with (fail)
  generalize w.alloc _=W at*
  go_region_held3 (fun w'=>w'.cell? ⟨w.1.size,0,none⟩=some (.string ⟨f.n.toArray⟩)/\w'.cell? ⟨w.1.size,1,none⟩=some (.string ⟨f.d.toArray⟩))
   (first
     |exact(HB.out.here hz).cells
     |go_keep)
   (first
     |(go_at_call 192;refine(HC.out _).mono ?_;rintro e w1 ⟨rfl,hb1⟩;unfold Xg S;have hz:Below W.1.size W w1:=(Below.refl _ W).drew.trans hb1))
  all_goals
   go_wp2_with fail
   rw[HPO.out,HEQ.out];exact⟨rfl,HBA.out.trans (hz.mono HBA.out.size)⟩
def Zfq(f:Fr):Fr×Int:=if val f.d=0 then(Fr.zero,10) else(QJ f.rat,0)
theorem ZkT(f:Fr)(w:World)(hf:f.Sz 40003):Calls Tryz.prog 157 #[S f.n,S f.d] w (ZbF (Zfq f) w):=by
 have HZ:=jq (fun W=>Zbc f.d W (by have:=hf.2;omega));have HC:=jq (fun W=>Jq f W hf);have HPO:=jq (show ZbF (Zfq f) w=fun e w'=>e=.returned (.tuple #[Xg (Zfq f).1,.int .i64 (Zfq f).2])/\Below w.1.size w w' from rfl);have HNL:=jq (show Zfq f=if val f.d=0 then(Fr.zero,10) else(QJ f.rat,0) from rfl);generalize ZbF (Zfq f) w=post at*;generalize Zfq f=nl at*;generalize QJ f.rat=res at*;have HB:=jq (show FrB (w.alloc (.cells #[.string ⟨#[]⟩,.string ⟨#[]⟩] 39)) w.1.size Fr.zero from FrB.new w Fr.zero);have HBA:=jq (show Below w.1.size w (w.alloc (.cells #[.string ⟨#[]⟩,.string ⟨#[]⟩] 39)) from(Below.refl _ _).alloc (Nat.le_refl _) _);clear hf;unfold Xg at*
 unfold S at*
 go_enter Tryz.func157,Tryz.ntmps157
 go_wp2_with fail
 generalize w.alloc _=W at*
 by_cases h0:val f.d=0
 ·rw[show decide (val f.d=0)=true by simp[h0]] at HZ;rw[if_pos h0] at HNL;obtain⟨c0,c1⟩:=HB.out.cells
  have f0:=HB.out.frozen 0;have f1:=HB.out.frozen 1;clear h0 HC;refine(HZ.out _).mono ?_;rintro e w1 ⟨rfl,rfl⟩;go_wp2_with fail
  refine bodyPost_ret (v:=.tuple #[.agg #[.string ⟨#[]⟩,.string ⟨#[]⟩],.int .i64 10]) (by simp[results,Tryz.results157,go_sem,c0,c1]) rfl ?_;rw[HPO.out,HNL.out];exact⟨rfl,(HBA.out.setCell (p:=⟨w.1.size,0,none⟩) (Nat.le_refl _) _).setCell (p:=⟨w.1.size,1,none⟩) (Nat.le_refl _) _⟩
 ·rw[show decide (val f.d=0)=false by simp[h0]] at HZ;rw[if_neg h0] at HNL;clear h0;refine(HZ.out _).mono ?_;rintro e w1 ⟨rfl,rfl⟩;go_wp2_with fail
  refine(HC.out _).mono ?_;rintro e w2 ⟨rfl,hb2⟩;unfold Xg S;have HB2:=jq (HB.out.here hb2);have hb02:=HBA.out.trans (hb2.mono HBA.out.size);obtain⟨c0,c1⟩:=HB2.out.cells
  have f0:=HB2.out.frozen 0;have f1:=HB2.out.frozen 1;go_wp2_with fail
  refine bodyPost_ret (v:=.tuple #[.agg #[.string ⟨res.n.toArray⟩,.string ⟨res.d.toArray⟩],.int .i64 0]) (by simp[results,Tryz.results157,go_sem,c0,c1]) rfl ?_;rw[HPO.out,HNL.out];exact⟨rfl,(hb02.setCell (p:=⟨w.1.size,0,none⟩) (Nat.le_refl _) _).setCell (p:=⟨w.1.size,1,none⟩) (Nat.le_refl _) _⟩
end
section
theorem Zbs{a b:List UInt8}{L:Nat}(ha:a.length<=L)(hb:b.length<=L):(Qe (val a*val b)).length<=L+L+1:=QP (Xw (Yk ha) (Yk hb))
theorem Zmf(x y:Fr)(hx:0<val x.d)(hy:0<val y.d):QM (val (Qe (val x.n*val y.d))-val (Qe (val y.n*val x.d)))=Xj x.rat y.rat:=by
 have e1:x.rat=Rat.divInt (val x.n) (val x.d):=by unfold Fr.rat Fr.dv;rw[if_neg (by omega)]
 have e2:y.rat=Rat.divInt (val y.n) (val y.d):=by unfold Fr.rat Fr.dv;rw[if_neg (by omega)]
 rw[e1,e2,Zez _ _ hx hy,Qm,Qm]
theorem ZaM(f h:Fr)(w:World)(hf:f.Sz 20000)(hh:h.Sz 20000):Calls Tryz.prog 124 #[Xg f,Xg h] w (QR (Xj f.rat h.rat) w):=by
 have HR1:=jq (fun W=>ZcG f W (hf.more (by omega)));have HR2:=jq (fun W=>ZcG h W (hh.more (by omega)));obtain⟨fn,fd⟩:=f.raw_sz hf (by omega)
 obtain⟨hn,hd⟩:=h.raw_sz hh (by omega)
 have fp:=f.raw_pos;have hp:=h.raw_pos;have HM1:=jq (fun W=>Zfm f.raw.n h.raw.d W (by omega) (by omega));have HM3:=jq (fun W=>Zfm h.raw.n f.raw.d W (by omega) (by omega));have HCM:=jq (fun W=>XJ (Qe (val f.raw.n*val h.raw.d)) (Qe (val h.raw.n*val f.raw.d)) W (by have:=Zbs fn hd;omega) (by have:=Zbs hn fd;omega));rw[Zmf _ _ fp hp,f.raw_rat',h.raw_rat'] at HCM;have HPO:=jq (show QR (Xj f.rat h.rat) w=fun e w'=>e=.returned (.int .i64 (Xj f.rat h.rat))/\Below w.1.size w w' from rfl);generalize QR (Xj f.rat h.rat) w=post at*;have H3:=jq (Fr2.new w f h);obtain⟨x0,x1,y0,y1⟩:=H3.out.held
 generalize Xj f.rat h.rat=res at*;clear fn fd hn hd fp hp;generalize f.raw=x at*;generalize h.raw=y at*;clear hf hh;unfold Xg at*
 unfold S at*
 go_enter Tryz.func124,Tryz.ntmps124
 go_wp2_with fail
 generalize ((w.alloc (.cells #[.string ⟨f.n.toArray⟩,.string ⟨f.d.toArray⟩] 39)).alloc (.cells #[.string ⟨h.n.toArray⟩,.string ⟨h.d.toArray⟩] 39))=W0 at*;refine(HR1.out _).mono ?_;rintro e w1 ⟨rfl,hb1⟩;unfold S;have H4:=jq (H3.out.here hb1);clear x0 x1 y0 y1 HR1 H3;obtain⟨x0,x1,y0,y1⟩:=H4.out.held
 go_wp2_with fail
 refine(HR2.out _).mono ?_;rintro e w2 ⟨rfl,hb2⟩;unfold S;have H5:=jq (H4.out.here hb2);clear x0 x1 y0 y1 HR2 H4 hb1 hb2;go_wp2_with fail
 refine(HM1.out _).mono ?_;rintro e w3 ⟨rfl,hb⟩
 try unfold S
 have H6:=jq (H5.out.here hb);clear hb H5;go_wp2_with fail
 refine(HM3.out _).mono ?_;rintro e w6 ⟨rfl,hb⟩
 try unfold S
 have H8b:=jq (H6.out.here hb);clear hb H6;go_wp2_with fail
 refine(HCM.out _).mono ?_;rintro e w9 ⟨rfl,rfl⟩;go_wp2_with fail
 first|go_ret|skip
 rw[HPO.out];exact⟨rfl,H8b.out.bl⟩
end
end Go.Proofs.YtmfjmngebldanaaGreatDoor
