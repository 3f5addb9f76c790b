/- R18, R19, RF1, RF2, RF3, RF4, FpQ, Sp1, Sp2, Sp3, Aw28, V0, RS1, RS2, Bz. -/
import Derived.Test.YtpnncoinlopndaaGreatDoorQGSm19
import Derived.Test.YtpnncoinlopndaaGreatDoorQGSm11
set_option maxRecDepth 20000
set_option maxHeartbeats 1000000
namespace Go.Proofs.YtpnncoinlopndaaGreatDoor
open Go.Lib renaming hid→hdz
section
open Go.RowKit Go.Shelf
theorem ZfE(a b:List UInt8)(w:World)(ha:a.length≤100000)(hb:b.length≤100000):Calls Tryz.prog 116 #[S a,S b] w (Div3Post (val a) (val b) w):=by
 by_cases h0:val b=0
 ·exact Zj3 a b w ha hb h0
 ·by_cases hk:(shortL a).2=true∧(shortL b).2=true
  ·exact ZiG a b w ha hb h0 hk.1 hk.2
  ·exact Zj4 a b w ha hb h0 hk
end
section
open Go.RowKit Go.Shelf
def strM(v:Value):Nat:=match v with| .string b=>(val b.data.toList).natAbs|_=>0
theorem Zj5(l:List UInt8):strM (.string ⟨l.toArray⟩)=(val l).natAbs:=by simp[strM]
theorem Zj6(a:List UInt8):txtL ((valD (digL a).1:Nat):Int)=(digL a).1:=by
 rw[Za2,Zb7 (ZaU a).1 (ZaU a).2.1]
theorem ZmR{m n L:Nat}(hn:n≠0)(h:(txtL (n:Int)).length≤L):(txtL ((m%n:Nat):Int)).length≤L:=by
 rw[Za2] at h ⊢
 refine Nat.le_trans (ZbU (L:=(digs n).length) ?_) h
 have h1:=ZaT (ZcS n)
 rw[ZcV] at h1
 have:=Nat.mod_lt m (Nat.pos_of_ne_zero hn)
 omega
theorem Zlx(m n:Nat):Int.fmod (m:Int) (n:Int)=((m%n:Nat):Int):=by
 rw[Int.fmod_eq_emod_of_nonneg _ (by omega)]
 simp
theorem Zly(a b:List UInt8)(w:World)(ha:a.length≤100000)(hb:b.length≤100000):Calls Tryz.prog 146 #[S a,S b] w (StrPost (txtL (Int.gcd (val a) (val b):Nat)) w):=by
 have HDa:=hdz (Zax a w (by omega))
 have HDb:=hdz (Zax b w (by omega))
 have HPO:=hdz (show StrPost (txtL (Int.gcd (val a) (val b):Nat)) w=fun e w'=>e=.returned (S (txtL (Int.gcd (val a) (val b):Nat)))∧Below w.heap.size w w' from rfl)
 have HGV:=hdz (Zi9 a b)
 have HLA:=hdz (Nat.le_trans (ZaH a) ha)
 have HLB:=hdz (Nat.le_trans (ZaH b) hb)
 rw[←Zj6 a] at HDa HLA
 rw[←Zj6 b] at HDb HLB
 generalize StrPost (txtL (Int.gcd (val a) (val b):Nat)) w=post at*
 generalize Int.gcd (val a) (val b)=G at*
 generalize valD (digL a).1=u at*
 generalize valD (digL b).1=v at*
 generalize (digL a).2=na at*
 generalize (digL b).2=nb at*
 clear ha hb
 unfold S at*
 go_enter Tryz.func146,Tryz.ntmps146
 go_wp2_with fail
 refine HDa.out.mono ?_
 rintro e w1 ⟨rfl,rfl⟩
 go_wp2_with fail
 refine HDb.out.mono ?_
 rintro e w1 ⟨rfl,rfl⟩
 go_wp2_with fail
 go_loopw [9,10] (fun s t wr=>∃m n:Nat,s=.string ⟨(txtL (m:Int)).toArray⟩∧t=.string ⟨(txtL (n:Int)).toArray⟩∧Hid (Nat.gcd m n=G)∧Hid ((txtL (m:Int)).length≤100000)∧Hid ((txtL (n:Int)).length≤100000)∧Below w.heap.size w wr) (fun _ t _=>strM t)
 case atStart=>exact⟨u,v,rfl,rfl,HGV,HLA,HLB,Below.refl _ _⟩
 case round=>
  clear HDa HDb HGV HLA HLB
  obtain⟨m,n,rfl,rfl,HG,HM,HN,hbl⟩:=hrel
  by_cases hn:n=0
  ·subst hn
   have HGm:=hdz (show m=G by have:=HG.out;rwa [Nat.gcd_zero_right] at this)
   have hz:txtL ((0:Nat):Int)=[]:=rfl
   rw[hz]
   clear HG HM HN
   go_wp2_with fail
   first|go_ret|skip
   rw[HPO.out,HGm.out]
   exact⟨rfl,hbl⟩
  ·have hne:(txtL (n:Int)==[])=false:=by
    rw[Bool.eq_false_iff]
    intro h
    have:=ZaQ.1 (eq_of_beq h)
    omega
   have HDV:=hdz (ZfE (txtL (m:Int)) (txtL (n:Int)) wr HM.out HN.out)
   rw[Zaa,Zaa] at HDV
   have HNE:=hdz hn
   have HME:=hdz (show strM (.string ⟨(txtL ((m%n:Nat):Int)).toArray⟩)<strM (.string ⟨(txtL (n:Int)).toArray⟩) by
    rw[Zj5,Zj5,Zaa,Zaa]
    have:=Nat.mod_lt m (Nat.pos_of_ne_zero hn)
    omega)
   have HFM:=hdz (Zlx m n)
   clear hn
   unfold S at*
   go_wp2_with fail
   refine HDV.out.mono ?_
   intro e w1 h1
   obtain⟨rfl,hb1⟩:=ZbV (by have:=HNE.out;omega) h1
   clear h1
   rw[HFM.out]
   go_wp2_with fail
   go_roundw
   case rel=>exact⟨n,m%n,rfl,rfl,by show _=_;rw[←HG.out,Nat.gcd_comm m n,Nat.gcd_rec n m,Nat.gcd_comm],HN,ZmR HNE.out HN.out,hbl.trans (hb1.mono hbl.size)⟩
   case measure=>exact HME.out
end
section
open Go.RowKit Go.Shelf
def Fr.raw(f:Fr):Fr:=⟨if val f.d<0 then txtL (-val f.n) else f.n,if val f.d=0 then[49] else if val f.d<0 then txtL (-val f.d) else f.d⟩
theorem Fr.raw_pos(f:Fr):0<val f.raw.d:=by
 unfold Fr.raw
 simp only
 split
 ·rw[Za7];omega
 ·split
  ·rw[Zaa];omega
  ·omega
theorem Fr.raw_dv(f:Fr):f.raw.dv=val f.raw.d:=by
 have:=f.raw_pos
 unfold Fr.dv
 rw[if_neg (by omega)]
theorem Fr.raw_rat(f:Fr):Rat.divInt (val f.raw.n) (val f.raw.d)=f.rat:=by
 unfold Fr.raw Fr.rat Fr.dv
 simp only
 by_cases h0:val f.d=0
 ·rw[if_pos h0,if_pos h0,if_neg (by omega),Za7]
 ·rw[if_neg h0,if_neg h0]
  by_cases h1:val f.d<0
  ·rw[if_pos h1,if_pos h1,Zaa,Zaa,Rat.neg_divInt_neg]
  ·rw[if_neg h1,if_neg h1]
theorem Fr.raw_rat'(f:Fr):f.raw.rat=f.rat:=by
 have:=f.raw_rat
 rw[←f.raw_dv] at this
 exact this
theorem Fr.raw_sz{f:Fr}{L:Nat}(h:f.Sz L)(_hL:1≤L):f.raw.Sz (L+1):=by
 have h1:=ZdA f.n
 have h2:=ZdA f.d
 have h3:=h.1
 have h4:=h.2
 have e1:=Zab (n:= -val f.n) (L:=f.n.length) (by omega)
 have e2:=Zab (n:= -val f.d) (L:=f.d.length) (by omega)
 unfold Fr.raw
 constructor
 ·simp only
  split<;>omega
 ·simp only
  split
  ·simp
  ·split<;>omega
theorem Zew(a:List UInt8)(w:World)(ha:a.length≤100000000):Calls Tryz.prog 145 #[S a] w fun e w'=>e=.returned (.bool (decide (val a=0)))∧w=w':=by
 have HC:=hdz (Zau a [] w ha (by simp))
 rw[ZaD,Int.sub_zero] at HC
 have HE:=hdz (ZhA (val a))
 generalize sgnI (val a)=z at*
 generalize decide (val a=0)=bb at*
 clear ha
 unfold S at*
 go_enter Tryz.func145,Tryz.ntmps145
 go_wp2_with fail
 refine HC.out.mono ?_
 rintro e w1 ⟨rfl,rfl⟩
 go_wp2_with fail
 go_ret
 exact⟨Zaf HE.out,rfl⟩
theorem ZfF(w:World):Calls Tryz.prog 105 #[] w fun e w'=>e=.returned (S [49])∧w=w':=by
 have HC:=hdz (ZfC 1 (by omega) (by omega) w)
 rw[Zfk] at HC
 unfold S at*
 go_enter Tryz.func105,Tryz.ntmps105
 go_wp2_with fail
 refine HC.out.mono ?_
 rintro e w1 ⟨rfl,rfl⟩
 go_wp2_with fail
 go_ret
 exact⟨rfl,rfl⟩
theorem Za4(f:Fr)(w:World)(hf:f.Sz 100000):Calls Tryz.prog 106 #[FrV f] w (TwoPost f.raw.n f.raw.d w):=by
 have hbA:Below w.heap.size w (w.alloc (.cells #[.string ⟨f.n.toArray⟩,.string ⟨f.d.toArray⟩] 26)):=(Below.refl _ _).alloc (Nat.le_refl _) _
 have HZ:=hdz (fun W=>Zew f.d W (by have:=hf.2;omega))
 have HO:=hdz (fun W=>ZfF W)
 have HCM:=hdz (fun W=>Zau f.d [] W (by have:=hf.2;omega) (by simp))
 rw[ZaD,Int.sub_zero] at HCM
 have HN1:=hdz (fun W=>ZdU f.n W (by have:=hf.1;omega))
 have HN2:=hdz (fun W=>ZdU f.d W (by have:=hf.2;omega))
 have HPO:=hdz (show TwoPost f.raw.n f.raw.d w=fun e w'=>e=.returned (.tuple #[S f.raw.n,S f.raw.d])∧Below w.heap.size w w' from rfl)
 have HB:=hdz (FrB.new w f)
 have HBA:=hdz hbA
 generalize TwoPost f.raw.n f.raw.d w=post at*
 obtain⟨c0,c1⟩:=HB.out.cells
 clear hbA hf
 unfold Fr.raw at HPO
 unfold S FrV at*
 unfold S
 go_enter Tryz.func106,Tryz.ntmps106
 go_wp2_with fail
 generalize w.alloc _=W at*
 by_cases h0:val f.d=0
 ·rw[show decide (val f.d=0)=true by simp[h0]] at HZ
  rw[if_pos h0,if_neg (by omega)] at HPO
  clear h0 HCM HN1 HN2
  refine(HZ.out _).mono ?_
  rintro e w1 ⟨rfl,rfl⟩
  go_wp2_with fail
  go_quiet ((go_at_call 105;exact Calls.quiet_of_same ((HO.out _).mono (fun e w' h=>And.intro h.1 h.2.symm))))
  go_wp2_with fail
  rw[HPO.out]
  exact⟨rfl,bdN HBA.out _⟩
 ·rw[show decide (val f.d=0)=false by simp[h0]] at HZ
  rw[if_neg h0] at HPO
  refine(HZ.out _).mono ?_
  rintro e w1 ⟨rfl,rfl⟩
  by_cases h1:val f.d<0
  ·rw[show sgnI (val f.d)= -1 by unfold sgnI;rw[if_pos h1]] at HCM
   rw[if_pos h1,if_pos h1] at HPO
   clear h0 h1
   go_wp2_with fail
   refine(HCM.out _).mono ?_
   rintro e w1 ⟨rfl,rfl⟩
   go_wp2_with fail
   go_quiet (first|(go_at_call_of 92 (Value.string ⟨f.n.toArray⟩);exact Calls.quiet_of_same ((HN1.out _).mono (fun e w' h=>And.intro h.1 h.2.symm)))|(go_at_call_of 92 (Value.string ⟨f.d.toArray⟩);exact Calls.quiet_of_same ((HN2.out _).mono (fun e w' h=>And.intro h.1 h.2.symm))))
   go_wp2_with fail
   rw[HPO.out]
   exact⟨rfl,bdN HBA.out _⟩
  ·rw[show sgnI (val f.d)=1 by unfold sgnI;rw[if_neg h1,if_pos (by omega)]] at HCM
   rw[if_neg h1,if_neg h1] at HPO
   clear h0 h1
   go_wp2_with fail
   refine(HCM.out _).mono ?_
   rintro e w1 ⟨rfl,rfl⟩
   go_wp2_with fail
   go_quiet (fail)
   go_wp2_with fail
   rw[HPO.out]
   exact⟨rfl,bdN HBA.out _⟩
theorem Ze9(a b:List UInt8)(w:World)(ha:a.length≤100000)(hb:b.length≤100000)(h0:val b≠0):Calls Tryz.prog 147 #[S a,S b] w (StrPost (txtL ((val a).fdiv (val b))) w):=by
 have HD:=hdz (ZfE a b w ha hb)
 have HPO:=hdz (show StrPost (txtL ((val a).fdiv (val b))) w=fun e w'=>e=.returned (S (txtL ((val a).fdiv (val b))))∧Below w.heap.size w w' from rfl)
 generalize StrPost (txtL ((val a).fdiv (val b))) w=post at*
 unfold S at*
 go_enter Tryz.func147,Tryz.ntmps147
 go_wp2_with fail
 refine HD.out.mono ?_
 intro e w1 h1
 obtain⟨rfl,hb1⟩:=ZbV h0 h1
 clear h1
 go_wp2_with fail
 first|go_ret|skip
 rw[HPO.out]
 exact⟨rfl,hb1⟩
end
section
open Go.RowKit Go.Shelf
theorem ZiH{w W:World}{p:Nat}(h:Below w.heap.size w W)(hp:w.heap.size<p)(u v t:Value):Below w.heap.size w (((W.setCell ⟨p,1,none⟩ u).setCell ⟨w.heap.size,0,none⟩ v).setCell ⟨w.heap.size,1,none⟩ t):=
 ((h.setCell (p:=⟨p,1,none⟩) (Nat.le_of_lt hp) _).setCell (p:=⟨w.heap.size,0,none⟩) (Nat.le_refl _) _).setCell (p:=⟨w.heap.size,1,none⟩) (Nat.le_refl _) _
theorem Za6(n d:List UInt8)(w:World)(hn:n.length≤50000)(hd:d.length≤50000)(hd0:0<val d):
 Calls Tryz.prog 104 #[S n,S d] w (FracPost (frOf (Rat.divInt (val n) (val d))) w):=by
 have HZ:=hdz (fun W=>Zew n W (by omega))
 have HGC:=hdz (fun W=>Zly n d W (by omega) (by omega))
 have HGL:=hdz (Zja (val n) (d:=d) (by omega))
 have HGP:=hdz (Zi2 (val n) (val d) (by omega))
 have HR1:=hdz (Zi0 (val n) (val d) hd0)
 have HR2:=hdz (Zi1 (val n) (val d) hd0)
 have HQ0:=hdz (show val n=0→FrV (frOf (Rat.divInt (val n) (val d)))=FrV Fr.zero by intro h;rw[h,Rat.zero_divInt];rfl)
 have HQL:=hdz (show(txtL (Rat.divInt (val n) (val d)).den).length≤50001 by
  obtain⟨K,hK⟩:∃K:Nat,K=50000:=⟨_,rfl⟩
  rw[←hK] at hd
  have:=Zab (n:=((Rat.divInt (val n) (val d)).den:Int)) (L:=K) (Nat.lt_of_le_of_lt (by have:=ZcX (val n) (val d) (by omega);simpa using this) (Zai hd))
  omega)
 have HB:=hdz (show FrB (w.alloc (.cells #[.string ⟨#[]⟩,.string ⟨#[]⟩] 26)) w.heap.size Fr.zero from FrB.new w Fr.zero)
 have HBA:=hdz (show Below w.heap.size w (w.alloc (.cells #[.string ⟨#[]⟩,.string ⟨#[]⟩] 26)) from(Below.refl _ _).alloc (Nat.le_refl _) _)
 have HPO:=hdz (show FracPost (frOf (Rat.divInt (val n) (val d))) w=fun e w'=>e=.returned (FrV (frOf (Rat.divInt (val n) (val d))))∧Below w.heap.size w w' from rfl)
 have HN:=hdz hn;have HD:=hdz hd
 generalize FracPost (frOf (Rat.divInt (val n) (val d))) w=post at*
 generalize Rat.divInt (val n) (val d)=q at*
 generalize Int.gcd (val n) (val d)=g at*
 have HV1:=hdz (fun W=>Ze9 n (txtL (g:Int)) W (by have:=HN.out;omega) (by have:=HGL.out;have:=HD.out;omega) (by rw[Zaa];have:=HGP.out;omega))
 have HV2:=hdz (fun W=>Ze9 d (txtL (g:Int)) W (by have:=HD.out;omega) (by have:=HGL.out;have:=HD.out;omega) (by rw[Zaa];have:=HGP.out;omega))
 rw[Zaa,HR1.out] at HV1
 rw[Zaa,HR2.out] at HV2
 have HO:=hdz (fun W=>ZfF W)
 have HCM:=hdz (fun W=>Zau (txtL (q.den:Int)) [49] W (by have:=HQL.out;omega) (by simp))
 rw[Zaa,Za7] at HCM
 clear hn hd hd0 HR1 HR2 HGP HGL HN HD HQL
 unfold S at*
 go_enter Tryz.func104,Tryz.ntmps104
 go_wp2_with fail
 generalize w.alloc _=W at*
 by_cases h0:val n=0
 ·rw[show decide (val n=0)=true by simp[h0]] at HZ
  have HF:=hdz (HQ0.out h0)
  obtain⟨c0,c1⟩:=HB.out.cells
  have f0:=HB.out.frozen 0;have f1:=HB.out.frozen 1
  clear h0 HQ0 HV1 HV2 HCM HGC HO
  refine(HZ.out _).mono ?_
  rintro e w1 ⟨rfl,rfl⟩
  go_wp2_with fail
  refine bodyPost_ret (v:=.agg #[.string ⟨#[]⟩,.string ⟨#[]⟩]) (by simp[results,Tryz.results104,go_sem,c0,c1]) rfl ?_
  rw[HPO.out,HF.out]
  exact⟨rfl,(HBA.out.setCell (p:=⟨w.heap.size,0,none⟩) (Nat.le_refl _) _).setCell (p:=⟨w.heap.size,1,none⟩) (Nat.le_refl _) _⟩
 ·rw[show decide (val n=0)=false by simp[h0]] at HZ
  clear h0 HQ0
  refine(HZ.out _).mono ?_
  rintro e w1 ⟨rfl,rfl⟩
  go_wp2_with fail
  refine(HGC.out _).mono ?_
  rintro e w2 ⟨rfl,hb2⟩
  have HB2:=hdz (HB.out.here hb2)
  unfold S
  go_wp2_with fail
  refine(HV1.out _).mono ?_
  rintro e w3 ⟨rfl,hb3⟩
  have HB3:=hdz (HB2.out.here hb3)
  unfold S
  go_wp2_with fail
  refine(HV2.out _).mono ?_
  rintro e w4 ⟨rfl,hb4⟩
  have HB4:=hdz (HB3.out.here hb4)
  unfold S
  have hb03:=HBA.out.trans ((hb2.trans ((hb3.trans (hb4.mono hb3.size)).mono hb2.size)).mono HBA.out.size)
  have hbX:=(Below.refl w4.heap.size w4).alloc (Nat.le_refl _) (.cells #[.string ⟨(txtL q.num).toArray⟩,.string ⟨(txtL (q.den:Int)).toArray⟩] 26)
  have HB5:=hdz (HB4.out.here hbX)
  have HG5:=hdz (FrB.new w4 ⟨txtL q.num,txtL (q.den:Int)⟩)
  have HLT:=hdz (show w.heap.size<w4.heap.size from HB4.out.lt)
  have HBX:=hdz (hb03.trans (hbX.mono hb03.size))
  clear HB HB2 HB3 HB4 hb2 hb3 hb4 hbX HZ HGC HV1 HV2 hb03
  go_upto_region 5 with (fail)
  obtain⟨g0,g1⟩:=HG5.out.cells
  have gf1:=HG5.out.frozen 1
  obtain⟨c0,c1⟩:=HB5.out.cells
  have f0:=HB5.out.frozen 0;have f1:=HB5.out.frozen 1
  simp only at g0 g1
  generalize w4.alloc _=W5 at*
  have hlt:=HLT.out
  have hne1:w.heap.size≠w4.heap.size:=by omega
  have hne2:w4.heap.size≠w.heap.size:=by omega
  by_cases h1:q.den=1
  ·have HF:=hdz (show FrV (frOf q)=.agg #[.string ⟨(txtL q.num).toArray⟩,.string ⟨#[]⟩] by unfold FrV frOf;simp only[if_pos h1];rfl)
   rw[show sgnI ((q.den:Int)-1)=0 by rw[h1];rfl] at HCM
   clear h1
   go_quiet (first
    |(go_at_call 105;exact Calls.quiet_of_same ((HO.out _).mono (fun e w' h=>And.intro h.1 h.2.symm)))
    |(go_at_call 62;exact Calls.quiet_of_same ((HCM.out _).mono (fun e w' h=>And.intro h.1 h.2.symm))))
   go_wp2_with fail
   refine bodyPost_ret (v:=.agg #[.string ⟨(txtL q.num).toArray⟩,.string ⟨#[]⟩]) (by simp[results,Tryz.results104,go_sem,c0,c1]) rfl ?_
   rw[HPO.out,HF.out]
   exact⟨rfl,ZiH (bdN HBX.out _) HLT.out _ _ _⟩
  ·have HF:=hdz (show FrV (frOf q)=.agg #[.string ⟨(txtL q.num).toArray⟩,.string ⟨(txtL q.den).toArray⟩] by unfold FrV frOf;simp only[if_neg h1];rfl)
   rw[show sgnI ((q.den:Int)-1)=1 by unfold sgnI;rw[if_neg (by have:=q.den_pos;omega),if_pos (by have:=q.den_pos;omega)]] at HCM
   clear h1
   generalize txtL (q.den:Int)=t at*
   go_quiet (first
    |(go_at_call 105;exact Calls.quiet_of_same ((HO.out _).mono (fun e w' h=>And.intro h.1 h.2.symm)))
    |(go_at_call 62;exact Calls.quiet_of_same ((HCM.out _).mono (fun e w' h=>And.intro h.1 h.2.symm))))
   go_wp2_with fail
   refine bodyPost_ret (v:=.agg #[.string ⟨(txtL q.num).toArray⟩,.string ⟨t.toArray⟩]) (by simp[results,Tryz.results104,go_sem,c0,c1]) rfl ?_
   rw[HPO.out,HF.out]
   exact⟨rfl,((bdN HBX.out _).setCell (p:=⟨w.heap.size,0,none⟩) (Nat.le_refl _) _).setCell (p:=⟨w.heap.size,1,none⟩) (Nat.le_refl _) _⟩
structure Fr2 (w:World) (p:Nat) (f h:Fr) (W:World):Prop where
 a:FrB W p f
 b:FrB W (p+1) h
 bl:Below w.heap.size w W
theorem Fr2.here{w:World}{p:Nat}{f h:Fr}{W W':World}(H:Fr2 w p f h W)(hb:Below W.heap.size W W'):Fr2 w p f h W':=⟨H.a.here hb,H.b.here hb,H.bl.trans (hb.mono H.bl.size)⟩
theorem Fr2.held{w:World}{p:Nat}{f h:Fr}{W:World}(H:Fr2 w p f h W):W.cell? ⟨p,0,none⟩=some (.string ⟨f.n.toArray⟩)∧W.cell? ⟨p,1,none⟩=some (.string ⟨f.d.toArray⟩)∧W.cell? ⟨p+1,0,none⟩=some (.string ⟨h.n.toArray⟩)∧W.cell? ⟨p+1,1,none⟩=some (.string ⟨h.d.toArray⟩):=
 ⟨H.a.cells.1,H.a.cells.2,H.b.cells.1,H.b.cells.2⟩
theorem Fr2.new(w:World)(f h:Fr):Fr2 w w.heap.size f h ((w.alloc (.cells #[.string ⟨f.n.toArray⟩,.string ⟨f.d.toArray⟩] 26)).alloc (.cells #[.string ⟨h.n.toArray⟩,.string ⟨h.d.toArray⟩] 26)):=by
 refine⟨(FrB.new w f).alloc _,?_,((Below.refl _ _).alloc (Nat.le_refl _) _).alloc (by simp) _⟩
 have:=FrB.new (w.alloc (.cells #[.string ⟨f.n.toArray⟩,.string ⟨f.d.toArray⟩] 26)) h
 simp only[World.size_alloc] at this
 exact this
theorem Fr2.newz(w:World)(f:Fr):Fr2 w w.heap.size f Fr.zero ((w.alloc (.cells #[.string ⟨f.n.toArray⟩,.string ⟨f.d.toArray⟩] 26)).alloc (.cells #[.string ⟨#[]⟩,.string ⟨#[]⟩] 26)):=Fr2.new w f Fr.zero
theorem ZbE(f:Fr)(w:World)(hf:f.Sz 40003):Calls Tryz.prog 103 #[FrV f] w (FracPost (frOf f.rat) w):=by
 have HR:=hdz (fun W=>Za4 f W (hf.more (by omega)))
 obtain⟨fn,fd⟩:=f.raw_sz hf (by omega)
 have HRD:=hdz (fun W=>Za6 f.raw.n f.raw.d W (by omega) (by omega) f.raw_pos)
 rw[f.raw_rat] at HRD
 have HPO:=hdz (show FracPost (frOf f.rat) w=fun e w'=>e=.returned (FrV (frOf f.rat))∧Below w.heap.size w w' from rfl)
 generalize FracPost (frOf f.rat) w=post at*
 generalize frOf f.rat=res at*
 have H2:=hdz (Fr2.newz w f)
 obtain⟨x0,x1⟩:=H2.out.a.cells
 clear hf fn fd
 generalize f.raw=x at*
 unfold FrV at*
 unfold S at*
 go_enter Tryz.func103,Tryz.ntmps103
 go_wp2_with fail
 generalize (w.alloc (.cells #[.string ⟨f.n.toArray⟩,.string ⟨f.d.toArray⟩] 26)).alloc (.cells #[.string ⟨#[]⟩,.string ⟨#[]⟩] 26)=W at*
 refine(HR.out _).mono ?_
 rintro e w1 ⟨rfl,hb1⟩
 unfold S
 have H3:=hdz (H2.out.here hb1)
 go_wp2_with fail
 refine(HRD.out _).mono ?_
 rintro e w2 ⟨rfl,hb2⟩
 unfold FrV S
 have H9:=hdz (H3.out.here hb2)
 have z0:=H9.out.b.cells.1;have z1:=H9.out.b.cells.2;have f0:=H9.out.b.frozen 0;have f1:=H9.out.b.frozen 1
 go_wp2_with fail
 refine bodyPost_ret (v:=.agg #[.string ⟨res.n.toArray⟩,.string ⟨res.d.toArray⟩]) (by simp[results,Tryz.results103,go_sem,z0,z1]) rfl ?_
 rw[HPO.out]
 exact⟨rfl,(H9.out.bl.setCell (p:=⟨w.heap.size+1,0,none⟩) (by simp only;omega) _).setCell (p:=⟨w.heap.size+1,1,none⟩) (by simp only;omega) _⟩
theorem Zcw(f:Fr)(w:World)(hf:f.Sz 40000):Calls Tryz.prog 48 #[FrV f] w (CmpIPost (chkF f) w):=by
 have HC:=hdz (fun W=>ZbE f W (hf.more (by omega)))
 have HPO:=hdz (show CmpIPost (chkF f) w=fun e w'=>e=.returned (.int .i64 (chkF f))∧Below w.heap.size w w' from rfl)
 have HCK:=hdz (show chkF f=if f=frOf f.rat then 0 else 1 from rfl)
 generalize CmpIPost (chkF f) w=post at*
 generalize frOf f.rat=g at*
 have HB:=hdz (FrB.new w f)
 have HBA:=hdz (show Below w.heap.size w (w.alloc (.cells #[.string ⟨f.n.toArray⟩,.string ⟨f.d.toArray⟩] 26)) from(Below.refl _ _).alloc (Nat.le_refl _) _)
 obtain⟨x0,x1⟩:=HB.out.cells
 clear hf
 have HEQ:=hdz (show chkF f=if(f.n==g.n)&&(f.d==g.d) then 0 else 1 by
  rw[HCK.out]
  by_cases h:f=g
  ·subst h;simp
  ·rw[if_neg h,if_neg]
   intro h2
   simp at h2
   exact h (Fr.ext_ h2.1 h2.2))
 clear HCK
 unfold FrV at*
 unfold S at*
 cases hn:(f.n==g.n)<;>cases hd:(f.d==g.d)
 all_goals
  rw[hn,hd] at HEQ
  simp only[Bool.and_true,Bool.and_false,Bool.false_eq_true,if_true,if_false] at HEQ
  go_enter Tryz.func48,Tryz.ntmps48
  go_upto_region 1 with (fail)
  generalize w.alloc _=W at*
  go_region_held3 (fun w'=>w'.cell? ⟨w.heap.size,0,none⟩=some (.string ⟨f.n.toArray⟩)∧w'.cell? ⟨w.heap.size,1,none⟩=some (.string ⟨f.d.toArray⟩))
   (first
     |exact(HB.out.here hz).cells
     |go_keep)
   (first
     |(go_at_call 103;refine(HC.out _).mono ?_;rintro e w1 ⟨rfl,hb1⟩;unfold FrV S;have hz:Below W.heap.size W w1:=(Below.refl _ W).drew.trans hb1))
  all_goals
   go_wp2_with fail
   rw[HPO.out,HEQ.out]
   exact⟨rfl,HBA.out.trans (hz.mono HBA.out.size)⟩
def newR(f:Fr):Fr×Int:=if val f.d=0 then(Fr.zero,10) else(frOf f.rat,0)
theorem ZfG(f:Fr)(w:World)(hf:f.Sz 40003):Calls Tryz.prog 138 #[S f.n,S f.d] w (QuoPost (newR f) w):=by
 have HZ:=hdz (fun W=>Zew f.d W (by have:=hf.2;omega))
 have HC:=hdz (fun W=>ZbE f W hf)
 have HPO:=hdz (show QuoPost (newR f) w=fun e w'=>e=.returned (.tuple #[FrV (newR f).1,.int .i64 (newR f).2])∧Below w.heap.size w w' from rfl)
 have HNL:=hdz (show newR f=if val f.d=0 then(Fr.zero,10) else(frOf f.rat,0) from rfl)
 generalize QuoPost (newR f) w=post at*
 generalize newR f=nl at*
 generalize frOf f.rat=res at*
 have HB:=hdz (show FrB (w.alloc (.cells #[.string ⟨#[]⟩,.string ⟨#[]⟩] 26)) w.heap.size Fr.zero from FrB.new w Fr.zero)
 have HBA:=hdz (show Below w.heap.size w (w.alloc (.cells #[.string ⟨#[]⟩,.string ⟨#[]⟩] 26)) from(Below.refl _ _).alloc (Nat.le_refl _) _)
 clear hf
 unfold FrV at*
 unfold S at*
 go_enter Tryz.func138,Tryz.ntmps138
 go_wp2_with fail
 generalize w.alloc _=W at*
 by_cases h0:val f.d=0
 ·rw[show decide (val f.d=0)=true by simp[h0]] at HZ
  rw[if_pos h0] at HNL
  obtain⟨c0,c1⟩:=HB.out.cells
  have f0:=HB.out.frozen 0;have f1:=HB.out.frozen 1
  clear h0 HC
  refine(HZ.out _).mono ?_
  rintro e w1 ⟨rfl,rfl⟩
  go_wp2_with fail
  refine bodyPost_ret (v:=.tuple #[.agg #[.string ⟨#[]⟩,.string ⟨#[]⟩],.int .i64 10]) (by simp[results,Tryz.results138,go_sem,c0,c1]) rfl ?_
  rw[HPO.out,HNL.out]
  exact⟨rfl,(HBA.out.setCell (p:=⟨w.heap.size,0,none⟩) (Nat.le_refl _) _).setCell (p:=⟨w.heap.size,1,none⟩) (Nat.le_refl _) _⟩
 ·rw[show decide (val f.d=0)=false by simp[h0]] at HZ
  rw[if_neg h0] at HNL
  clear h0
  refine(HZ.out _).mono ?_
  rintro e w1 ⟨rfl,rfl⟩
  go_wp2_with fail
  refine(HC.out _).mono ?_
  rintro e w2 ⟨rfl,hb2⟩
  unfold FrV S
  have HB2:=hdz (HB.out.here hb2)
  have hb02:=HBA.out.trans (hb2.mono HBA.out.size)
  obtain⟨c0,c1⟩:=HB2.out.cells
  have f0:=HB2.out.frozen 0;have f1:=HB2.out.frozen 1
  go_wp2_with fail
  refine bodyPost_ret (v:=.tuple #[.agg #[.string ⟨res.n.toArray⟩,.string ⟨res.d.toArray⟩],.int .i64 0]) (by simp[results,Tryz.results138,go_sem,c0,c1]) rfl ?_
  rw[HPO.out,HNL.out]
  exact⟨rfl,(hb02.setCell (p:=⟨w.heap.size,0,none⟩) (Nat.le_refl _) _).setCell (p:=⟨w.heap.size,1,none⟩) (Nat.le_refl _) _⟩
theorem ZmS(x:Fr)(h:0<val x.d):Rat.divInt (val (txtL (-val x.n))) (val x.d)= -x.rat:=by
 have e1:x.rat=Rat.divInt (val x.n) (val x.d):=by unfold Fr.rat Fr.dv;rw[if_neg (by omega)]
 rw[e1,Zaa,Rat.neg_divInt]
theorem Zlz(f:Fr)(w:World)(hf:f.Sz 40000):Calls Tryz.prog 118 #[FrV f] w (FracPost (frOf (-f.rat)) w):=by
 have HR:=hdz (fun W=>Za4 f W (hf.more (by omega)))
 obtain⟨fn,fd⟩:=f.raw_sz hf (by omega)
 have HN:=hdz (fun W=>ZdU f.raw.n W (by omega))
 have HRD:=hdz (fun W=>Za6 (txtL (-val f.raw.n)) f.raw.d W (by have:=Zab (n:= -val f.raw.n) (L:=f.raw.n.length) (by have:=ZdA f.raw.n;omega);omega) (by omega) f.raw_pos)
 rw[ZmS _ f.raw_pos,f.raw_rat'] at HRD
 have HPO:=hdz (show FracPost (frOf (-f.rat)) w=fun e w'=>e=.returned (FrV (frOf (-f.rat)))∧Below w.heap.size w w' from rfl)
 generalize FracPost (frOf (-f.rat)) w=post at*
 generalize frOf (-f.rat)=res at*
 have H2:=hdz (Fr2.newz w f)
 obtain⟨x0,x1⟩:=H2.out.a.cells
 clear hf fn fd
 generalize f.raw=x at*
 unfold FrV at*
 unfold S at*
 go_enter Tryz.func118,Tryz.ntmps118
 go_wp2_with fail
 generalize (w.alloc (.cells #[.string ⟨f.n.toArray⟩,.string ⟨f.d.toArray⟩] 26)).alloc (.cells #[.string ⟨#[]⟩,.string ⟨#[]⟩] 26)=W at*
 refine(HR.out _).mono ?_
 rintro e w1 ⟨rfl,hb1⟩
 try unfold S
 have H3:=hdz (H2.out.here hb1)
 go_wp2_with fail
 refine(HN.out _).mono ?_
 rintro e w1 ⟨rfl,rfl⟩
 try unfold S
 go_wp2_with fail
 refine(HRD.out _).mono ?_
 rintro e w2 ⟨rfl,hb2⟩
 unfold FrV S
 have H9:=hdz (H3.out.here hb2)
 have z0:=H9.out.b.cells.1;have z1:=H9.out.b.cells.2;have f0:=H9.out.b.frozen 0;have f1:=H9.out.b.frozen 1
 go_wp2_with fail
 refine bodyPost_ret (v:=.agg #[.string ⟨res.n.toArray⟩,.string ⟨res.d.toArray⟩]) (by simp[results,Tryz.results118,go_sem,z0,z1]) rfl ?_
 rw[HPO.out]
 exact⟨rfl,(H9.out.bl.setCell (p:=⟨w.heap.size+1,0,none⟩) (by simp only;omega) _).setCell (p:=⟨w.heap.size+1,1,none⟩) (by simp only;omega) _⟩
end
section
open Go.RowKit Go.Shelf
theorem ZaG{a b:List UInt8}{L:Nat}(ha:a.length≤L)(hb:b.length≤L):(txtL (val a*val b)).length≤L+L+1:=Zab (Zak (Zai ha) (Zai hb))
theorem ZeM{a b c d:List UInt8}{L:Nat}(ha:a.length≤L)(hb:b.length≤L)(hc:c.length≤L)(hd:d.length≤L):(txtL (val a*val b+val c*val d)).length≤L+L+1+1:=
 Zab (Zic (Zak (Zai ha) (Zai hb)) (Zak (Zai hc) (Zai hd)))
theorem ZmT(x y:Fr)(hx:0<val x.d)(hy:0<val y.d):sgnI (val (txtL (val x.n*val y.d))-val (txtL (val y.n*val x.d)))=cmpR x.rat y.rat:=by
 have e1:x.rat=Rat.divInt (val x.n) (val x.d):=by unfold Fr.rat Fr.dv;rw[if_neg (by omega)]
 have e2:y.rat=Rat.divInt (val y.n) (val y.d):=by unfold Fr.rat Fr.dv;rw[if_neg (by omega)]
 rw[e1,e2,Zd8 _ _ hx hy,Zaa,Zaa]
theorem ZmU(x y:Fr)(hx:0<val x.d)(hy:0<val y.d):Rat.divInt (val (txtL (val x.n*val y.d+val y.n*val x.d))) (val (txtL (val x.d*val y.d)))=x.rat+y.rat:=by
 have e1:x.dv=val x.d:=by unfold Fr.dv;rw[if_neg (by omega)]
 have e2:y.dv=val y.d:=by unfold Fr.dv;rw[if_neg (by omega)]
 rw[Zmn,e1,e2,Zaa,Zaa]
theorem ZmV(x y:Fr)(hx:0<val x.d)(hy:0<val y.d):Rat.divInt (val (txtL (val x.n*val y.n))) (val (txtL (val x.d*val y.d)))=x.rat*y.rat:=by
 have e1:x.dv=val x.d:=by unfold Fr.dv;rw[if_neg (by omega)]
 have e2:y.dv=val y.d:=by unfold Fr.dv;rw[if_neg (by omega)]
 rw[ZgI,e1,e2,Zaa,Zaa]
theorem ZlA(f h:Fr)(w:World)(hf:f.Sz 20000)(hh:h.Sz 20000):Calls Tryz.prog 117 #[FrV f,FrV h] w (FracPost (frOf (f.rat+h.rat)) w):=by
 have HR1:=hdz (fun W=>Za4 f W (hf.more (by omega)))
 have HR2:=hdz (fun W=>Za4 h W (hh.more (by omega)))
 obtain⟨fn,fd⟩:=f.raw_sz hf (by omega)
 obtain⟨hn,hd⟩:=h.raw_sz hh (by omega)
 have fp:=f.raw_pos
 have hp:=h.raw_pos
 have HM1:=hdz (fun W=>ZaY f.raw.n h.raw.d W (by omega) (by omega))
 have HM2:=hdz (fun W=>ZaY h.raw.n f.raw.d W (by omega) (by omega))
 have HM3:=hdz (fun W=>ZaY f.raw.d h.raw.d W (by omega) (by omega))
 have HAD:=hdz (fun W=>Zde (txtL (val f.raw.n*val h.raw.d)) (txtL (val h.raw.n*val f.raw.d)) W (by have:=ZaG fn hd;omega) (by have:=ZaG hn fd;omega))
 rw[Zaa,Zaa] at HAD
 have HRD:=hdz (fun W=>Za6 (txtL (val f.raw.n*val h.raw.d+val h.raw.n*val f.raw.d)) (txtL (val f.raw.d*val h.raw.d)) W (by have:=ZeM fn hd hn fd;omega) (by have:=ZaG fd hd;omega) (by rw[Zaa];exact Int.mul_pos fp hp))
 rw[ZmU _ _ fp hp,f.raw_rat',h.raw_rat'] at HRD
 have HPO:=hdz (show FracPost (frOf (f.rat+h.rat)) w=fun e w'=>e=.returned (FrV (frOf (f.rat+h.rat)))∧Below w.heap.size w w' from rfl)
 generalize FracPost (frOf (f.rat+h.rat)) w=post at*
 have H3:=hdz (Fr3.new w f h)
 obtain⟨x0,x1,y0,y1⟩:=H3.out.held
 generalize frOf (f.rat+h.rat)=res at*
 clear fn fd hn hd fp hp
 generalize f.raw=x at*
 generalize h.raw=y at*
 clear hf hh
 unfold FrV at*
 unfold S at*
 go_enter Tryz.func117,Tryz.ntmps117
 go_wp2_with fail
 generalize (((w.alloc (.cells #[.string ⟨f.n.toArray⟩,.string ⟨f.d.toArray⟩] 26)).alloc (.cells #[.string ⟨h.n.toArray⟩,.string ⟨h.d.toArray⟩] 26)).alloc (.cells #[.string ⟨#[]⟩,.string ⟨#[]⟩] 26))=W0 at*
 refine(HR1.out _).mono ?_
 rintro e w1 ⟨rfl,hb1⟩
 unfold S
 have H4:=hdz (H3.out.here hb1)
 clear x0 x1 y0 y1 HR1 H3
 obtain⟨x0,x1,y0,y1⟩:=H4.out.held
 go_wp2_with fail
 refine(HR2.out _).mono ?_
 rintro e w2 ⟨rfl,hb2⟩
 unfold S
 have H5:=hdz (H4.out.here hb2)
 clear x0 x1 y0 y1 HR2 H4 hb1 hb2
 go_wp2_with fail
 refine(HM1.out _).mono ?_
 rintro e w3 ⟨rfl,hb⟩
 try unfold S
 have H6:=hdz (H5.out.here hb)
 clear hb H5
 go_wp2_with fail
 refine(HM2.out _).mono ?_
 rintro e w4 ⟨rfl,hb⟩
 try unfold S
 have H7:=hdz (H6.out.here hb)
 clear hb H6
 go_wp2_with fail
 refine(HAD.out _).mono ?_
 rintro e w5 ⟨rfl,hb⟩
 try unfold S
 have H8:=hdz (H7.out.here hb)
 clear hb H7
 go_wp2_with fail
 refine(HM3.out _).mono ?_
 rintro e w6 ⟨rfl,hb⟩
 try unfold S
 have H8b:=hdz (H8.out.here hb)
 clear hb H8
 go_wp2_with fail
 refine(HRD.out _).mono ?_
 rintro e w9 ⟨rfl,hb⟩
 unfold FrV S
 have H9:=hdz (H8b.out.here hb)
 have z0:=H9.out.c.cells.1;have z1:=H9.out.c.cells.2;have f0:=H9.out.c.frozen 0;have f1:=H9.out.c.frozen 1
 go_wp2_with fail
 refine bodyPost_ret (v:=.agg #[.string ⟨res.n.toArray⟩,.string ⟨res.d.toArray⟩]) (by simp[results,Tryz.results117,go_sem,z0,z1]) rfl ?_
 rw[HPO.out]
 exact⟨rfl,(H9.out.bl.setCell (p:=⟨w.heap.size+1+1,0,none⟩) (by simp only;omega) _).setCell (p:=⟨w.heap.size+1+1,1,none⟩) (by simp only;omega) _⟩
theorem ZdV(f h:Fr)(w:World)(hf:f.Sz 20000)(hh:h.Sz 20000):Calls Tryz.prog 56 #[FrV f,FrV h] w (FracPost (frOf (f.rat*h.rat)) w):=by
 have HR1:=hdz (fun W=>Za4 f W (hf.more (by omega)))
 have HR2:=hdz (fun W=>Za4 h W (hh.more (by omega)))
 obtain⟨fn,fd⟩:=f.raw_sz hf (by omega)
 obtain⟨hn,hd⟩:=h.raw_sz hh (by omega)
 have fp:=f.raw_pos
 have hp:=h.raw_pos
 have HM1:=hdz (fun W=>ZaY f.raw.n h.raw.n W (by omega) (by omega))
 have HM3:=hdz (fun W=>ZaY f.raw.d h.raw.d W (by omega) (by omega))
 have HRD:=hdz (fun W=>Za6 (txtL (val f.raw.n*val h.raw.n)) (txtL (val f.raw.d*val h.raw.d)) W (by have:=ZaG fn hn;omega) (by have:=ZaG fd hd;omega) (by rw[Zaa];exact Int.mul_pos fp hp))
 rw[ZmV _ _ fp hp,f.raw_rat',h.raw_rat'] at HRD
 have HPO:=hdz (show FracPost (frOf (f.rat*h.rat)) w=fun e w'=>e=.returned (FrV (frOf (f.rat*h.rat)))∧Below w.heap.size w w' from rfl)
 generalize FracPost (frOf (f.rat*h.rat)) w=post at*
 have H3:=hdz (Fr3.new w f h)
 obtain⟨x0,x1,y0,y1⟩:=H3.out.held
 generalize frOf (f.rat*h.rat)=res at*
 clear fn fd hn hd fp hp
 generalize f.raw=x at*
 generalize h.raw=y at*
 clear hf hh
 unfold FrV at*
 unfold S at*
 go_enter Tryz.func56,Tryz.ntmps56
 go_wp2_with fail
 generalize (((w.alloc (.cells #[.string ⟨f.n.toArray⟩,.string ⟨f.d.toArray⟩] 26)).alloc (.cells #[.string ⟨h.n.toArray⟩,.string ⟨h.d.toArray⟩] 26)).alloc (.cells #[.string ⟨#[]⟩,.string ⟨#[]⟩] 26))=W0 at*
 refine(HR1.out _).mono ?_
 rintro e w1 ⟨rfl,hb1⟩
 unfold S
 have H4:=hdz (H3.out.here hb1)
 clear x0 x1 y0 y1 HR1 H3
 obtain⟨x0,x1,y0,y1⟩:=H4.out.held
 go_wp2_with fail
 refine(HR2.out _).mono ?_
 rintro e w2 ⟨rfl,hb2⟩
 unfold S
 have H5:=hdz (H4.out.here hb2)
 clear x0 x1 y0 y1 HR2 H4 hb1 hb2
 go_wp2_with fail
 refine(HM1.out _).mono ?_
 rintro e w3 ⟨rfl,hb⟩
 try unfold S
 have H6:=hdz (H5.out.here hb)
 clear hb H5
 go_wp2_with fail
 refine(HM3.out _).mono ?_
 rintro e w6 ⟨rfl,hb⟩
 try unfold S
 have H8b:=hdz (H6.out.here hb)
 clear hb H6
 go_wp2_with fail
 refine(HRD.out _).mono ?_
 rintro e w9 ⟨rfl,hb⟩
 unfold FrV S
 have H9:=hdz (H8b.out.here hb)
 have z0:=H9.out.c.cells.1;have z1:=H9.out.c.cells.2;have f0:=H9.out.c.frozen 0;have f1:=H9.out.c.frozen 1
 go_wp2_with fail
 refine bodyPost_ret (v:=.agg #[.string ⟨res.n.toArray⟩,.string ⟨res.d.toArray⟩]) (by simp[results,Tryz.results56,go_sem,z0,z1]) rfl ?_
 rw[HPO.out]
 exact⟨rfl,(H9.out.bl.setCell (p:=⟨w.heap.size+1+1,0,none⟩) (by simp only;omega) _).setCell (p:=⟨w.heap.size+1+1,1,none⟩) (by simp only;omega) _⟩
theorem Zat(f h:Fr)(w:World)(hf:f.Sz 20000)(hh:h.Sz 20000):Calls Tryz.prog 50 #[FrV f,FrV h] w (CmpIPost (cmpR f.rat h.rat) w):=by
 have HR1:=hdz (fun W=>Za4 f W (hf.more (by omega)))
 have HR2:=hdz (fun W=>Za4 h W (hh.more (by omega)))
 obtain⟨fn,fd⟩:=f.raw_sz hf (by omega)
 obtain⟨hn,hd⟩:=h.raw_sz hh (by omega)
 have fp:=f.raw_pos
 have hp:=h.raw_pos
 have HM1:=hdz (fun W=>ZaY f.raw.n h.raw.d W (by omega) (by omega))
 have HM3:=hdz (fun W=>ZaY h.raw.n f.raw.d W (by omega) (by omega))
 have HCM:=hdz (fun W=>Zau (txtL (val f.raw.n*val h.raw.d)) (txtL (val h.raw.n*val f.raw.d)) W (by have:=ZaG fn hd;omega) (by have:=ZaG hn fd;omega))
 rw[ZmT _ _ fp hp,f.raw_rat',h.raw_rat'] at HCM
 have HPO:=hdz (show CmpIPost (cmpR f.rat h.rat) w=fun e w'=>e=.returned (.int .i64 (cmpR f.rat h.rat))∧Below w.heap.size w w' from rfl)
 generalize CmpIPost (cmpR f.rat h.rat) w=post at*
 have H3:=hdz (Fr2.new w f h)
 obtain⟨x0,x1,y0,y1⟩:=H3.out.held
 generalize cmpR f.rat h.rat=res at*
 clear fn fd hn hd fp hp
 generalize f.raw=x at*
 generalize h.raw=y at*
 clear hf hh
 unfold FrV at*
 unfold S at*
 go_enter Tryz.func50,Tryz.ntmps50
 go_wp2_with fail
 generalize ((w.alloc (.cells #[.string ⟨f.n.toArray⟩,.string ⟨f.d.toArray⟩] 26)).alloc (.cells #[.string ⟨h.n.toArray⟩,.string ⟨h.d.toArray⟩] 26))=W0 at*
 refine(HR1.out _).mono ?_
 rintro e w1 ⟨rfl,hb1⟩
 unfold S
 have H4:=hdz (H3.out.here hb1)
 clear x0 x1 y0 y1 HR1 H3
 obtain⟨x0,x1,y0,y1⟩:=H4.out.held
 go_wp2_with fail
 refine(HR2.out _).mono ?_
 rintro e w2 ⟨rfl,hb2⟩
 unfold S
 have H5:=hdz (H4.out.here hb2)
 clear x0 x1 y0 y1 HR2 H4 hb1 hb2
 go_wp2_with fail
 refine(HM1.out _).mono ?_
 rintro e w3 ⟨rfl,hb⟩
 try unfold S
 have H6:=hdz (H5.out.here hb)
 clear hb H5
 go_wp2_with fail
 refine(HM3.out _).mono ?_
 rintro e w6 ⟨rfl,hb⟩
 try unfold S
 have H8b:=hdz (H6.out.here hb)
 clear hb H6
 go_wp2_with fail
 refine(HCM.out _).mono ?_
 rintro e w9 ⟨rfl,rfl⟩
 go_wp2_with fail
 first|go_ret|skip
 rw[HPO.out]
 exact⟨rfl,H8b.out.bl⟩
end
section
open Go.RowKit Go.Shelf
theorem ZbF(a:List UInt8)(w:World)(ha:a.length≤50000):Calls Tryz.prog 49 #[S a] w (FracPost (frOf ((val a:Int):Rat)) w):=by
 have HO:=hdz (fun W=>ZfF W)
 have HRD:=hdz (fun W=>Za6 a [49] W ha (by simp) (by decide))
 rw[show Rat.divInt (val a) (val [49])=((val a:Int):Rat) by rw[show val [49]=1 from by decide];exact Zay _] at HRD
 have HPO:=hdz (show FracPost (frOf ((val a:Int):Rat)) w=fun e w'=>e=.returned (FrV (frOf ((val a:Int):Rat)))∧Below w.heap.size w w' from rfl)
 generalize FracPost (frOf ((val a:Int):Rat)) w=post at*
 generalize frOf ((val a:Int):Rat)=res at*
 have HB:=hdz (show FrB (w.alloc (.cells #[.string ⟨#[]⟩,.string ⟨#[]⟩] 26)) w.heap.size Fr.zero from FrB.new w Fr.zero)
 have HBA:=hdz (show Below w.heap.size w (w.alloc (.cells #[.string ⟨#[]⟩,.string ⟨#[]⟩] 26)) from(Below.refl _ _).alloc (Nat.le_refl _) _)
 clear ha
 unfold FracPost FrV at*
 unfold S at*
 go_enter Tryz.func49,Tryz.ntmps49
 go_wp2_with fail
 generalize w.alloc _=W at*
 refine(HO.out _).mono ?_
 rintro e w1 ⟨rfl,rfl⟩
 go_wp2_with fail
 refine(HRD.out _).mono ?_
 rintro e w2 ⟨rfl,hb2⟩
 have H9:=hdz (HB.out.here hb2)
 have HB9:=hdz (HBA.out.trans (hb2.mono HBA.out.size))
 have z0:=H9.out.cells.1;have z1:=H9.out.cells.2;have f0:=H9.out.frozen 0;have f1:=H9.out.frozen 1
 go_wp2_with fail
 refine bodyPost_ret (v:=.agg #[.string ⟨res.n.toArray⟩,.string ⟨res.d.toArray⟩]) (by simp[results,Tryz.results49,go_sem,z0,z1]) rfl ?_
 rw[HPO.out]
 exact⟨rfl,(HB9.out.setCell (p:=⟨w.heap.size,0,none⟩) (Nat.le_refl _) _).setCell (p:=⟨w.heap.size,1,none⟩) (Nat.le_refl _) _⟩
theorem ZiI(f:Fr)(w:World)(hf:f.Sz 40003)(hg:(frOf f.rat).Sz 100000):Calls Tryz.prog 88 #[FrV f] w (TwoPost (frOf f.rat).raw.n (frOf f.rat).raw.d w):=by
 have HC:=hdz (fun W=>ZbE f W hf)
 have HR:=hdz (fun W=>Za4 (frOf f.rat) W hg)
 have HPO:=hdz (show TwoPost (frOf f.rat).raw.n (frOf f.rat).raw.d w=fun e w'=>e=.returned (.tuple #[S (frOf f.rat).raw.n,S (frOf f.rat).raw.d])∧Below w.heap.size w w' from rfl)
 generalize TwoPost (frOf f.rat).raw.n (frOf f.rat).raw.d w=post at*
 have HB:=hdz (FrB.new w f)
 have HBA:=hdz (show Below w.heap.size w (w.alloc (.cells #[.string ⟨f.n.toArray⟩,.string ⟨f.d.toArray⟩] 26)) from(Below.refl _ _).alloc (Nat.le_refl _) _)
 obtain⟨x0,x1⟩:=HB.out.cells
 generalize (frOf f.rat).raw=r at*
 generalize frOf f.rat=g at*
 clear hf hg
 unfold FracPost TwoPost FrV at*
 unfold S at*
 go_enter Tryz.func88,Tryz.ntmps88
 go_wp2_with fail
 generalize w.alloc _=W at*
 refine(HC.out _).mono ?_
 rintro e w1 ⟨rfl,hb1⟩
 go_wp2_with fail
 refine(HR.out _).mono ?_
 rintro e w2 ⟨rfl,hb2⟩
 go_wp2_with fail
 first|go_ret|skip
 rw[HPO.out]
 exact⟨rfl,HBA.out.trans ((hb1.trans (hb2.mono hb1.size)).mono HBA.out.size)⟩
theorem Zmd{k:Int}(h:k≤0):¬0<sgnI k:=by
 unfold sgnI
 split
 ·omega
 ·split<;>omega
theorem Zcx(f:Fr)(w:World)(hf:f.Sz 30000):Calls Tryz.prog 63 #[FrV f] w (StrPost (txtL (flo f.rat)) w):=by
 have HR:=hdz (fun W=>Za4 f W (hf.more (by omega)))
 obtain⟨fn,fd⟩:=f.raw_sz hf (by omega)
 have hd0:=f.raw_pos
 have hq:(val f.raw.n).fdiv (val f.raw.d)=flo f.rat:=by rw[ZdO _ _ (by omega),f.raw_rat]
 have HD:=hdz (fun W=>ZfE f.raw.n f.raw.d W (by omega) (by omega))
 have hql:(txtL ((val f.raw.n).fdiv (val f.raw.d))).length≤60000:=by
  obtain⟨K,hK⟩:∃K:Nat,K=30001:=⟨_,rfl⟩
  rw[show 30000+1=K from hK.symm] at fn
  have h1:((val f.raw.n).fdiv (val f.raw.d)).natAbs<10^(K+1):=by
   have h2:=Zai fn
   have h3:((val f.raw.n).fdiv (val f.raw.d)).natAbs≤(val f.raw.n).natAbs+1:=by
    have:=Int.natAbs_fdiv_le_natAbs (val f.raw.n) (val f.raw.d)
    omega
   have h5:1≤10^K:=Nat.one_le_pow _ _ (by omega)
   rw[Nat.pow_succ]
   generalize 10^K=P at*
   omega
  have:=Zab h1
  omega
 have HM:=hdz (fun W=>ZaY (txtL ((val f.raw.n).fdiv (val f.raw.d))) f.raw.d W (by omega) (by omega))
 rw[Zaa] at HM
 have hle:((val f.raw.n).fdiv (val f.raw.d))*val f.raw.d≤val f.raw.n:=by
  have h1:=Int.mul_fdiv_add_fmod (val f.raw.n) (val f.raw.d)
  have h2:=Int.fmod_nonneg_of_pos (val f.raw.n) hd0
  rw[Int.mul_comm] at h1
  omega
 have hml:(txtL ((val f.raw.n).fdiv (val f.raw.d)*val f.raw.d)).length≤200000:=by
  have:=ZaG (a:=txtL ((val f.raw.n).fdiv (val f.raw.d))) (b:=f.raw.d) (L:=60000) hql (by omega)
  rw[Zaa] at this
  omega
 have HCM:=hdz (fun W=>Zau (txtL ((val f.raw.n).fdiv (val f.raw.d)*val f.raw.d)) f.raw.n W (by omega) (by omega))
 rw[Zaa] at HCM
 have HSG:=hdz (Zmd (k:=(val f.raw.n).fdiv (val f.raw.d)*val f.raw.d-val f.raw.n) (by omega))
 have HPO:=hdz (show StrPost (txtL (flo f.rat)) w=fun e w'=>e=.returned (S (txtL ((val f.raw.n).fdiv (val f.raw.d))))∧Below w.heap.size w w' by rw[hq];rfl)
 generalize StrPost (txtL (flo f.rat)) w=post at*
 have HB:=hdz (FrB.new w f)
 have HBA:=hdz (show Below w.heap.size w (w.alloc (.cells #[.string ⟨f.n.toArray⟩,.string ⟨f.d.toArray⟩] 26)) from(Below.refl _ _).alloc (Nat.le_refl _) _)
 obtain⟨x0,x1⟩:=HB.out.cells
 have HD0:=hdz (show val f.raw.d≠0 by omega)
 clear hf fn fd hd0 hq hql hle hml
 generalize sgnI ((val f.raw.n).fdiv (val f.raw.d)*val f.raw.d-val f.raw.n)=sg at*
 generalize txtL ((val f.raw.n).fdiv (val f.raw.d)*val f.raw.d)=pt at*
 unfold StrPost TwoPost FrV at*
 unfold S at*
 go_enter Tryz.func63,Tryz.ntmps63
 go_wp2_with fail
 generalize w.alloc _=W at*
 refine(HR.out _).mono ?_
 rintro e w1 ⟨rfl,hb1⟩
 go_wp2_with fail
 refine(HD.out _).mono ?_
 intro e w2 h2
 obtain⟨rfl,hb2⟩:=ZbV HD0.out h2
 clear h2
 generalize txtL ((val f.raw.n).fdiv (val f.raw.d))=qt at*
 go_wp2_with fail
 refine(HM.out _).mono ?_
 rintro e w3 ⟨rfl,hb3⟩
 go_wp2_with fail
 refine(HCM.out _).mono ?_
 rintro e w4 ⟨rfl,rfl⟩
 have hsg:=HSG.out
 go_wp2_with fail
 first|go_ret|skip
 rw[HPO.out]
 exact⟨rfl,HBA.out.trans ((hb1.trans ((hb2.trans (hb3.mono hb2.size)).mono hb1.size)).mono HBA.out.size)⟩
end
section
open Go.RowKit Go.Shelf
end
section
open Go.RowKit Go.Shelf
end
section
open Go.RowKit Go.Shelf
structure Fr4 (w:World) (p:Nat) (f g h:Fr) (W:World):Prop where
 a:FrB W p f
 b:FrB W (p+1) g
 c:FrB W (p+1+1) h
 d:FrB W (p+1+1+1) Fr.zero
 bl:Below w.heap.size w W
 hp:w.heap.size≤p
theorem Fr4.here{w:World}{p:Nat}{f g h:Fr}{W W':World}(H:Fr4 w p f g h W)(hb:Below W.heap.size W W'):Fr4 w p f g h W':=⟨H.a.here hb,H.b.here hb,H.c.here hb,H.d.here hb,H.bl.trans (hb.mono H.bl.size),H.hp⟩
theorem Fr4.new(w:World)(f g h:Fr):Fr4 w w.heap.size f g h ((((w.alloc (.cells #[.string ⟨f.n.toArray⟩,.string ⟨f.d.toArray⟩] 26)).alloc (.cells #[.string ⟨g.n.toArray⟩,.string ⟨g.d.toArray⟩] 26)).alloc (.cells #[.string ⟨h.n.toArray⟩,.string ⟨h.d.toArray⟩] 26)).alloc (.cells #[.string ⟨#[]⟩,.string ⟨#[]⟩] 26)):=by
 refine⟨(((FrB.new w f).alloc _).alloc _).alloc _,?_,?_,?_,((((Below.refl _ _).alloc (Nat.le_refl _) _).alloc (by simp) _).alloc (by simp;omega) _).alloc (by simp;omega) _,Nat.le_refl _⟩
 ·have:=((FrB.new (w.alloc (.cells #[.string ⟨f.n.toArray⟩,.string ⟨f.d.toArray⟩] 26)) g).alloc (.cells #[.string ⟨h.n.toArray⟩,.string ⟨h.d.toArray⟩] 26)).alloc (.cells #[.string ⟨#[]⟩,.string ⟨#[]⟩] 26)
  simp only[World.size_alloc] at this
  exact this
 ·have:=(FrB.new ((w.alloc (.cells #[.string ⟨f.n.toArray⟩,.string ⟨f.d.toArray⟩] 26)).alloc (.cells #[.string ⟨g.n.toArray⟩,.string ⟨g.d.toArray⟩] 26)) h).alloc (.cells #[.string ⟨#[]⟩,.string ⟨#[]⟩] 26)
  simp only[World.size_alloc] at this
  exact this
 ·have:=FrB.new (((w.alloc (.cells #[.string ⟨f.n.toArray⟩,.string ⟨f.d.toArray⟩] 26)).alloc (.cells #[.string ⟨g.n.toArray⟩,.string ⟨g.d.toArray⟩] 26)).alloc (.cells #[.string ⟨h.n.toArray⟩,.string ⟨h.d.toArray⟩] 26)) Fr.zero
  simp only[World.size_alloc] at this
  exact this
theorem Fr4.held{w:World}{p:Nat}{f g h:Fr}{W:World}(H:Fr4 w p f g h W):W.cell? ⟨p,0,none⟩=some (.string ⟨f.n.toArray⟩)∧W.cell? ⟨p,1,none⟩=some (.string ⟨f.d.toArray⟩)∧W.cell? ⟨p+1,0,none⟩=some (.string ⟨g.n.toArray⟩)∧W.cell? ⟨p+1,1,none⟩=some (.string ⟨g.d.toArray⟩)∧W.cell? ⟨p+1+1,0,none⟩=some (.string ⟨h.n.toArray⟩)∧W.cell? ⟨p+1+1,1,none⟩=some (.string ⟨h.d.toArray⟩):=
 ⟨H.a.cells.1,H.a.cells.2,H.b.cells.1,H.b.cells.2,H.c.cells.1,H.c.cells.2⟩
theorem FrB.set2{w:World}{p:Nat}{f:Fr}(h:FrB w p f)(g:Fr):FrB ((w.setCell ⟨p,0,none⟩ (.string ⟨g.n.toArray⟩)).setCell ⟨p,1,none⟩ (.string ⟨g.d.toArray⟩)) p g:=by
 unfold FrB at h ⊢
 rw[heap_setCell_same _ p 1 _ 26 _ (heap_setCell_same w p 0 _ 26 _ h)]
 rfl
end
section
open Go.RowKit Go.Shelf
end
section
open Go.RowKit Go.Shelf
end
section
open Go.RowKit Go.Shelf
structure FrT (w:World) (p:Nat) (f g h:Fr) (W:World):Prop where
 a:FrB W p f
 b:FrB W (p+1) g
 c:FrB W (p+1+1) h
 bl:Below w.heap.size w W
 hp:w.heap.size≤p
theorem FrT.here{w:World}{p:Nat}{f g h:Fr}{W W':World}(H:FrT w p f g h W)(hb:Below W.heap.size W W'):FrT w p f g h W':=⟨H.a.here hb,H.b.here hb,H.c.here hb,H.bl.trans (hb.mono H.bl.size),H.hp⟩
theorem FrT.new(w:World)(f g h:Fr):FrT w w.heap.size f g h (((w.alloc (.cells #[.string ⟨f.n.toArray⟩,.string ⟨f.d.toArray⟩] 26)).alloc (.cells #[.string ⟨g.n.toArray⟩,.string ⟨g.d.toArray⟩] 26)).alloc (.cells #[.string ⟨h.n.toArray⟩,.string ⟨h.d.toArray⟩] 26)):=by
 refine⟨((FrB.new w f).alloc _).alloc _,?_,?_,(((Below.refl _ _).alloc (Nat.le_refl _) _).alloc (by simp) _).alloc (by simp;omega) _,Nat.le_refl _⟩
 ·have:=(FrB.new (w.alloc (.cells #[.string ⟨f.n.toArray⟩,.string ⟨f.d.toArray⟩] 26)) g).alloc (.cells #[.string ⟨h.n.toArray⟩,.string ⟨h.d.toArray⟩] 26)
  simp only[World.size_alloc] at this
  exact this
 ·have:=FrB.new ((w.alloc (.cells #[.string ⟨f.n.toArray⟩,.string ⟨f.d.toArray⟩] 26)).alloc (.cells #[.string ⟨g.n.toArray⟩,.string ⟨g.d.toArray⟩] 26)) h
  simp only[World.size_alloc] at this
  exact this
end
section
open Go.RowKit Go.Shelf
end
section
open Go.RowKit Go.Shelf
theorem Znz{q:Rat}{L:Nat}(h:RB L q):RB L (-q):=by
 unfold RB at*
 rw[Rat.neg_num,Rat.neg_den,Int.natAbs_neg]
 exact h
theorem ZdW(f h:Fr)(w:World)(hf:f.Sz 19999)(hh:h.Sz 19999):Calls Tryz.prog 64 #[FrV f,FrV h] w (FracPost (frOf (f.rat-h.rat)) w):=by
 have HN:=hdz (fun W=>Zlz h W (hh.more (by omega)))
 have hz:(frOf (-h.rat)).Sz 20000:=by
  obtain⟨K,hK⟩:∃K:Nat,K=19999:=⟨_,rfl⟩
  rw[←hK] at hh
  have:=Zam (Znz (Zd7 hh (by omega)))
  rwa [hK] at this
 have HA:=hdz (fun W=>ZlA f (frOf (-h.rat)) W (hf.more (by omega)) hz)
 rw[Zac,←Rat.sub_eq_add_neg] at HA
 have HPO:=hdz (show FracPost (frOf (f.rat-h.rat)) w=fun e w'=>e=.returned (FrV (frOf (f.rat-h.rat)))∧Below w.heap.size w w' from rfl)
 generalize FracPost (frOf (f.rat-h.rat)) w=post at*
 generalize frOf (f.rat-h.rat)=res at*
 generalize frOf (-h.rat)=ng at*
 have H3:=hdz (Fr3.new w f h)
 obtain⟨x0,x1,y0,y1⟩:=H3.out.held
 clear hf hh hz
 unfold FrV at*
 unfold S at*
 go_enter Tryz.func64,Tryz.ntmps64
 go_upto_region 1 with (fail)
 generalize (((w.alloc (.cells #[.string ⟨f.n.toArray⟩,.string ⟨f.d.toArray⟩] 26)).alloc (.cells #[.string ⟨h.n.toArray⟩,.string ⟨h.d.toArray⟩] 26)).alloc (.cells #[.string ⟨#[]⟩,.string ⟨#[]⟩] 26))=W at*
 go_region_held3 (fun w'=>w'.cell? ⟨w.heap.size,0,none⟩=some (.string ⟨f.n.toArray⟩)∧w'.cell? ⟨w.heap.size,1,none⟩=some (.string ⟨f.d.toArray⟩)∧w'.cell? ⟨w.heap.size+1,0,none⟩=some (.string ⟨h.n.toArray⟩)∧w'.cell? ⟨w.heap.size+1,1,none⟩=some (.string ⟨h.d.toArray⟩))
  (first
    |exact(H3.out.here hz2).heldS _ _
    |exact(H3.out.here hz2).held
    |exact(H3.out.here hz).held
    |go_keep)
  (first
    |(go_at_call 118;refine(HN.out _).mono ?_;rintro e w1 ⟨rfl,hb1⟩;unfold FrV S;have hz:Below W.heap.size W w1:=(Below.refl _ W).drew.trans hb1)
    |(go_at_call 117;refine(HA.out _).mono ?_;rintro e w2 ⟨rfl,hb2⟩;unfold FrV S;have hz2:=hz.trans (hb2.mono hz.size);have z0:=(H3.out.here hz2).c.cells.1;have z1:=(H3.out.here hz2).c.cells.2;have f0:=(H3.out.here hz2).c.frozen 0;have f1:=(H3.out.here hz2).c.frozen 1))
 all_goals
  go_wp2_with fail
  refine bodyPost_ret (v:=.agg #[.string ⟨res.n.toArray⟩,.string ⟨res.d.toArray⟩]) (by simp[results,Tryz.results64,go_sem,z0,z1]) rfl ?_
  rw[HPO.out]
  exact⟨rfl,((H3.out.here hz2).bl.setCell (p:=⟨w.heap.size+1+1,0,none⟩) (by simp only;omega) _).setCell (p:=⟨w.heap.size+1+1,1,none⟩) (by simp only;omega) _⟩
end
section
open Go.RowKit Go.Shelf
def Bz(W X:World):Prop:=Below W.heap.size W X
section
variable {W X Y:World}
theorem Bz.refl(W:World):Bz W W:=Below.refl _ _
theorem Bz.drew(h:Bz W X):Bz W X.drew:=Below.drew h
theorem Bz.size(h:Bz W X):W.heap.size≤X.heap.size:=Below.size h
theorem Bz.alloc(h:Bz W X)(o:Obj):Bz W (X.alloc o):=Below.alloc h (Below.size h) o
theorem Bz.call(h:Bz W X)(hb:Below X.heap.size X Y):Bz W Y:=Below.trans h (hb.mono (Below.size h))
theorem Bz.set{p:Nat}(h:Bz W X)(hp:W.heap.size≤p)(j:Nat)(u:Value):Bz W (X.setCell ⟨p,j,none⟩ u):=Below.setCell h hp u
variable {w:World} {bs:List (Nat×Array Value×TypeId)} {p:Nat} {cs:Array Value} {T:TypeId}
theorem Kp.join(h:Kp w bs W)(hz:Bz W X)(hq:BlkB X p cs T)(hp:W.heap.size≤p):Kp w ((p,cs,T)::bs) X:=by
 have h':=h.here hz
 refine⟨h'.pow,h'.bl,?_,?_,?_⟩
 ·intro b hb
  rcases List.mem_cons.1 hb with rfl|hb
  ·exact Nat.le_trans h.bl.size hp
  ·exact h.own b hb
 ·refine .cons (fun b hb=> ?_) h.ord
  obtain⟨x,hx,rfl⟩:=List.mem_map.1 hb
  have:=(h.blk x hx).lt
  exact fun e=>by simp only at e;omega
 ·intro b hb
  rcases List.mem_cons.1 hb with rfl|hb
  ·exact hq
  ·exact h'.blk b hb
theorem Kp.set2{a b:Value}(h:Kp w ((p,#[a,b],T)::bs) X)(c d:Value):Kp w ((p,#[c,d],T)::bs) ((X.setCell ⟨p,0,none⟩ c).setCell ⟨p,1,none⟩ d):=by
 have h2:=(h.set 0 0 rfl c).set 0 1 rfl d
 exact h2
theorem Kp.tail{b:Nat×Array Value×TypeId}(h:Kp w (b::bs) X):Kp w bs X:=
 ⟨h.pow,h.bl,fun x hx=>h.own x (List.mem_cons_of_mem _ hx),(List.pairwise_cons.1 h.ord).2,fun x hx=>h.blk x (List.mem_cons_of_mem _ hx)⟩
end
end
end Go.Proofs.YtpnncoinlopndaaGreatDoor
