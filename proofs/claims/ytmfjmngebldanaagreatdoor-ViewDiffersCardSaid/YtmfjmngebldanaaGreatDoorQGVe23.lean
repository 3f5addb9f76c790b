/- R12, R13, R14, R16, R17, R18. -/
import Derived.Test.YtmfjmngebldanaaGreatDoorQGVe19
import Derived.Test.YtmfjmngebldanaaGreatDoorQGVe4
import Derived.Laws.Cover1
set_option maxRecDepth 20000
set_option maxHeartbeats 4000000
namespace Go.Proofs.YtmfjmngebldanaaGreatDoor
open Go.Lib renaming hid→jq
open Go.RowKit Go.Shelf
section
theorem Ziq{m n:Int}(h1: -1000000000<m)(h2:m<1000000000)(h3: -1000000000<n)(h4:n<1000000000): -1000000000000000000<=m*n/\m*n<=1000000000000000000:=by
 have h:(m*n).natAbs<=1000000000*1000000000:=by
  rw[Int.natAbs_mul];exact Nat.mul_le_mul (by omega) (by omega)
 omega
theorem Zfm(a b:List UInt8)(w:World)(ha:a.length<=100000)(hb:b.length<=100000):Calls Tryz.prog 156 #[S a,S b] w (QD (Qe (val a*val b)) w):=by
 have HSa:=jq (Xi a w (by omega));have HSb:=jq (Xi b w (by omega));have HRa:=jq (YJ a w (by omega));have HRb:=jq (fun W=>YJ b W (by omega));obtain⟨K,hK⟩:∃K:Nat,K=100000:=⟨_,rfl⟩
 have hva:=Qw (show a.length<=K by omega);have hvb:=Qw (show b.length<=K by omega);have HK:=jq hK;clear hK;have HS:=jq (show sv ((Qf a).2 !=(Qf b).2) (Qh (Qf a).1*Qh (Qf b).1)=val a*val b by rw[Zja,Xf,Xf]);have HPO:=jq (show QD (Qe (val a*val b)) w=fun e w'=>e=.returned (S (Qe (val a*val b)))/\Below w.1.size w w' from rfl);obtain⟨la,ua,ea⟩:=Xp a
 obtain⟨lb,ub,eb⟩:=Xp b
 have HEA:=jq ea;have HEB:=jq eb;clear ea eb;unfold YI at HRa HRb;generalize QD (Qe (val a*val b)) w=post at*;generalize (Qf a).2=na at*;generalize (Qf b).2=nb at*;generalize Qh (Qf a).1=u at*;generalize Qh (Qf b).1=v at*;generalize (QC a).1=m at*;generalize (QC b).1=n at*;generalize (QC a).2=ka at*;generalize (QC b).2=kb at*;have HVA:=jq hva;have HVB:=jq hvb;have HUV:=jq (show u*v<1000000000^(K+K) by rw[Nat.pow_add];exact Nat.mul_lt_mul'' hva hvb);clear ha hb hva hvb;unfold S at*
 go_enter Tryz.func156,Tryz.ntmps156
 go_wp2_with fail
 refine HSa.out.mono ?_;rintro e w1 ⟨rfl,rfl⟩;go_wp2_with fail
 refine HSb.out.mono ?_;rintro e w1 ⟨rfl,rfl⟩
 by_cases hk:ka=true/\kb=true/\m<1000000000/\m> -1000000000/\n<1000000000/\n> -1000000000
 ·obtain⟨rfl,rfl,h1,h2,h3,h4⟩:=hk
  obtain⟨p,hp⟩:∃p,m*n=p:=⟨_,rfl⟩
  have hpb:=Ziq h2 h1 h4 h3;rw[hp] at hpb;obtain⟨hp1,hp2⟩:=hpb
  have HOF:=jq (ZaL p (by omega) (by omega) w);rw[<-HEA.out rfl,<-HEB.out rfl,hp] at HPO;unfold S at HOF;clear HRa HRb HS HVA HVB HUV HEA HEB;have e1:decide (m<1000000000)=true:=by simpa using h1
  have e2:decide (m> -1000000000)=true:=by simpa using h2
  have e3:decide (n<1000000000)=true:=by simpa using h3
  have e4:decide (n> -1000000000)=true:=by simpa using h4
  go_wp2_with fail
  refine HOF.out.mono ?_;rintro e w1 ⟨rfl,rfl⟩;go_wp2_with fail
  rw[HPO.out];exact⟨rfl,Below.refl _ _⟩
 ·have hcase:ka=false\/(ka=true/\kb=false)\/(ka=true/\kb=true/\¬m<1000000000)\/(ka=true/\kb=true/\m<1000000000/\¬m> -1000000000)\/(ka=true/\kb=true/\m<1000000000/\m> -1000000000/\¬n<1000000000)\/(ka=true/\kb=true/\m<1000000000/\m> -1000000000/\n<1000000000/\¬n> -1000000000):=by
   cases ka<;>cases kb<;>simp at hk ⊢ <;>omega
  clear HEA HEB HSa HSb la ua lb ub hk
  rcases hcase with rfl|⟨rfl,rfl⟩|⟨rfl,rfl,h1⟩|⟨rfl,rfl,h1,h2⟩|⟨rfl,rfl,h1,h2,h3⟩|⟨rfl,rfl,h1,h2,h3,h4⟩
  all_goals
   go_wp2_with fail
   refine HRa.out.mono ?_;rintro e w1 ⟨A1,n1,c1,xs,rfl,ho1,hc1,mg1,hb1⟩;have HO1:=jq ho1;have HM1:=jq mg1;clear ho1 mg1 HRa;go_wp2_with fail
   refine(HRb.out _).mono ?_;rintro e w2 ⟨A2,n2,c2,ys,rfl,ho2,hc2,mg2,hb2⟩;have HX1:=jq (HO1.out.here hb2);have HX2:=jq ho2;have HM2:=jq mg2;clear ho2 mg2 HRb;have HL1:=jq (show n1<=K by rw[HX1.out.1];exact HM1.out.len HVA.out);have HL2:=jq (show n2<=K by rw[HX2.out.1];exact HM2.out.len HVB.out);have hb02:=hb1.trans (hb2.mono hb1.size);go_wp2_with fail
   have hN1:RNumB ((w2.alloc (.cells #[.bool na,.slice A1 n1 c1] 209)).alloc (.cells #[.bool nb,.slice A2 n2 c2] 209)) w2.1.size na A1 n1 c1:=(RNumB.new w2 na A1 n1 c1).alloc _
   have hN2:RNumB ((w2.alloc (.cells #[.bool na,.slice A1 n1 c1] 209)).alloc (.cells #[.bool nb,.slice A2 n2 c2] 209)) (w2.1.size+1) nb A2 n2 c2:=by
    have:=RNumB.new (w2.alloc (.cells #[.bool na,.slice A1 n1 c1] 209)) nb A2 n2 c2
    simpa using this
   have hbA:Below w2.1.size w2 ((w2.alloc (.cells #[.bool na,.slice A1 n1 c1] 209)).alloc (.cells #[.bool nb,.slice A2 n2 c2] 209)):=((Below.refl _ _).alloc (Nat.le_refl _) _).alloc (by simp) _;have HX1':=jq (HX1.out.here hbA);have HX2':=jq (HX2.out.here hbA);have hb0A:=hb02.trans (hbA.mono hb02.size);obtain⟨x0,x1⟩:=hN1.cells
   obtain⟨y0,y1⟩:=hN2.cells
   have HN1:=jq hN1;have HN2:=jq hN2;clear hN1 hN2 hbA HX1 HX2 HO1;generalize (w2.alloc (.cells #[.bool na,.slice A1 n1 c1] 209)).alloc (.cells #[.bool nb,.slice A2 n2 c2] 209)=W at*;have HTM:=jq (Zaf A1 A2 n1 n2 c1 c2 xs ys u v W.drew HX1'.out.drew HX2'.out.drew HM1.out HM2.out (by have:=HL1.out;have:=HK.out;omega) (by have:=HL2.out;have:=HK.out;omega))
   go_region_held3 (fun w'=>w'.cell? ⟨w2.1.size,0,none⟩=some (.bool na)/\w'.cell? ⟨w2.1.size,1,none⟩=some (.slice A1 n1 c1)/\w'.cell? ⟨w2.1.size+1,0,none⟩=some (.bool nb)/\w'.cell? ⟨w2.1.size+1,1,none⟩=some (.slice A2 n2 c2))
    (first
      |exact⟨x0,x1,y0,y1⟩
      |exact⟨(HN1.out.here hbz).cells.1,(HN1.out.here hbz).cells.2,(HN2.out.here hbz).cells.1,(HN2.out.here hbz).cells.2⟩
      |exact⟨(HN1.out.here hbz4).cells.1,(HN1.out.here hbz4).cells.2,(HN2.out.here hbz4).cells.1,(HN2.out.here hbz4).cells.2⟩)
    (first
    |(go_at_call 191;refine HTM.out.mono ?_;rintro e w3 ⟨A3,n3,c3,zs,rfl,ho3,hc3,mg3,hb3⟩
      have hbz:Below W.1.size W w3:=(Below.refl _ W).drew.trans hb3;have HX3:=jq ho3;have HL3:=jq (show n3<=K+K by rw[HX3.out.1];exact mg3.len HUV.out);have hb03:=hb0A.trans (hbz.mono hb0A.size);have HTX:=jq (VM (na !=nb) A3 n3 c3 zs w3 HX3.out mg3.gs (by have:=HL3.out;have:=HK.out;omega));rw[mg3.val,XX,HS.out] at HTX;unfold S at HTX;clear ho3 mg3 hb3)
    |(go_at_call 190;refine HTX.out.mono ?_;rintro e w4 ⟨rfl,hb4⟩;have hbz4:=hbz.trans (hb4.mono hbz.size)))
  all_goals
   go_wp2_with fail
   rw[HPO.out];exact⟨rfl,hb03.trans (hb4.mono hb03.size)⟩
end
section
theorem ZdD(s:List UInt8):(⟨s.toArray⟩:ByteArray).toList=s:=by rw[Lib.toList_data]
theorem ZkJ(b:UInt8):Qh [b]=b.toNat-48:=by simp[Qh]
theorem YY(b:UInt8)(l:List UInt8):Qh (b::l)=(b.toNat-48)*10^l.length+Qh l:=by
 rw[show b::l=[b]++l from rfl,Yp,ZkJ]
theorem Zah{s t:List UInt8}(hs:s.all Qq=true)(ht:t.all Qq=true)(hz:∀b l,t=b::l->(b==48)=false)(h:s.length<t.length):Qh s<Qh t:=by
 cases t with
 |nil=>simp at h
 |cons b l=>
  have h1:=Xs hs;have hb:Qq b=true:=by simp at ht;exact ht.1
  have h2:=(QG b).1 hb;have h3:b≠48:=by have:=hz b l rfl;simpa using this
  have h4:b.toNat≠48:=fun h=>h3 (by rw[<-UInt8.toNat_inj];exact h)
  have h5:10^s.length<=10^l.length:=Nat.pow_le_pow_right (by omega) (by simp at h;omega);rw[YY];have h6:1*10^l.length<=(b.toNat-48)*10^l.length:=Nat.mul_le_mul_right _ (by omega);omega
theorem ZcD{P x y b c:Nat}(hx:x<P)(hy:y<P):(b*P+x<c*P+y↔b<c\/(b=c/\x<y)):=by
 rcases Nat.lt_trichotomy b c with h|h|h
 ·have:(b+1)*P<=c*P:=Nat.mul_le_mul_right _ h
  rw[Nat.add_mul] at this
  constructor
  ·intro _;exact .inl h
  ·intro _;omega
 ·subst h;constructor
  ·intro h2;exact .inr ⟨rfl,by omega⟩
  ·rintro(h2|h2)<;>omega
 ·have:(c+1)*P<=b*P:=Nat.mul_le_mul_right _ h
  rw[Nat.add_mul] at this
  constructor
  ·intro h2;omega
  ·rintro(h2|h2)<;>omega
theorem JP:∀(s t:List UInt8),s.all Qq=true->t.all Qq=true->s.length=t.length->Op.bytesLess s t=decide (Qh s<Qh t)
 |[],[],_,_,_=>by simp[Op.bytesLess]
 |_::_,[],_,_,h=>by simp at h
 |[],_::_,_,_,h=>by simp at h
 |b::s,c::t,hs,ht,h=>by
  simp only[List.all_cons,Bool.and_eq_true] at hs ht;have hl:s.length=t.length:=by simpa using h
  have ih:=JP s t hs.2 ht.2 hl;rw[Op.bytesLess,ih,YY,YY,hl];have h1:=(QG b).1 hs.1;have h2:=(QG c).1 ht.1;have h3:=Xs hs.2;have h4:=Xs ht.2;rw[hl] at h3;rw[Bool.eq_iff_iff];simp only[Bool.or_eq_true,Bool.and_eq_true,decide_eq_true_eq,beq_iff_eq];rw[ZcD h3 h4,UInt8.lt_iff_toNat_lt,<-UInt8.toNat_inj];omega
theorem ZkK{P x y b c:Nat}(hx:x<P)(hy:y<P)(h:b*P+x=c*P+y):b=c/\x=y:=by
 have h1:=ZcD (b:=b) (c:=c) hx hy;have h2:=ZcD (b:=c) (c:=b) hy hx;omega
theorem Zfn:∀(s t:List UInt8),s.all Qq=true->t.all Qq=true->s.length=t.length->Qh s=Qh t->s=t
 |[],[],_,_,_,_=>rfl
 |_::_,[],_,_,h,_=>by simp at h
 |[],_::_,_,_,h,_=>by simp at h
 |b::s,c::t,hs,ht,h,hv=>by
  simp only[List.all_cons,Bool.and_eq_true] at hs ht;have hl:s.length=t.length:=by simpa using h
  rw[YY,YY,hl] at hv;have h1:=(QG b).1 hs.1;have h2:=(QG c).1 ht.1;have h3:=Xs hs.2;have h4:=Xs ht.2;rw[hl] at h3;obtain⟨e1,e2⟩:=ZkK h3 h4 hv
  have:b=c:=by rw[<-UInt8.toNat_inj];omega
  rw[this,Zfn s t hs.2 ht.2 hl e2]
theorem XJ(a b:List UInt8)(w:World)(ha:a.length<=100000000)(hb:b.length<=100000000):Calls Tryz.prog 152 #[S a,S b] w fun e w'=>e=.returned (.int .i64 (QM (val a-val b)))/\w=w':=by
 have HDa:=jq (Xo a w (by omega));have HDb:=jq (Xo b w (by omega));have hla:=Xv a;have hlb:=Xv b;have HS:=jq (fun(r:Int)=>Zjb (r:=r) (Xf a).symm (Xf b).symm (ZdX a) (ZdX b));obtain⟨hda,hza,_⟩:=XE a
 obtain⟨hdb,hzb,_⟩:=XE b
 have HLT:=jq (fun h=>Zah hda hdb hzb h);have HGT:=jq (fun h=>Zah hdb hda hza h);have HBL:=jq (JP _ _ hda hdb);have HIN:=jq (Zfn _ _ hda hdb);have HIN2:=jq (show(Qf a).1=(Qf b).1->Qh (Qf a).1=Qh (Qf b).1 from fun h=>by rw[h]);clear hda hza hdb hzb;generalize QM (val a-val b)=res at*;generalize (Qf a).2=na at*;generalize (Qf b).2=nb at*;generalize (Qf a).1=s at*;generalize (Qf b).1=t at*;generalize Qh s=u at*;generalize Qh t=v at*;have hsa:(⟨s.toArray⟩:ByteArray).size=s.length:=Qk s;have hsb:(⟨t.toArray⟩:ByteArray).size=t.length:=Qk t;unfold S at*
 have hl1:s.length<=100000000:=by omega
 have hl2:t.length<=100000000:=by omega
 clear ha hb hla hlb;go_enter Tryz.func152,Tryz.ntmps152
 go_wp2_with fail
 refine HDa.out.mono ?_;rintro e w1 ⟨rfl,rfl⟩;go_wp2_with fail
 refine HDb.out.mono ?_;rintro e w1 ⟨rfl,rfl⟩;clear HDa HDb
 rcases Nat.lt_trichotomy s.length t.length with hl|hl|hl
 ·have HV:=jq (HLT.out hl);have HC:=jq (HS.out (-1) ⟨fun _=>HV.out,fun _=>by omega⟩ ⟨fun h=>by omega,fun h=>by have:=HV.out;omega⟩);clear HS HLT HGT HBL HIN HIN2 HV;obtain⟨k1,k2,k3,k4⟩:=HC.out
  clear HC;have HRES:=jq (show res=(if na then(if nb then 1 else-1) else(if nb then 1 else-1)) by cases na<;>cases nb<;>first|(rw[k1 ⟨rfl,rfl⟩];rfl)|(rw[k2 ⟨rfl,rfl⟩];rfl)|(rw[k3 ⟨rfl,rfl⟩];rfl)|(rw[k4 ⟨rfl,rfl⟩];rfl));clear k1 k2 k3 k4
  cases na<;>cases nb
  all_goals
   go_wp2_with fail
   first|go_ret|skip
   rw[HRES.out];exact⟨rfl,rfl⟩
 ·have HSA:=jq (ZdD s);have HSB:=jq (ZdD t);have HB:=jq (HBL.out hl)
  rcases Nat.lt_trichotomy u v with hv|hv|hv
  ·have HV:=jq hv;have HC:=jq (HS.out (-1) ⟨fun _=>HV.out,fun _=>by omega⟩ ⟨fun h=>by omega,fun h=>by have:=HV.out;omega⟩);have hlt:Op.bytesLess s t=true:=by rw[HB.out];simpa using hv
   have hlt2:Op.bytesLess (⟨s.toArray⟩:ByteArray).toList (⟨t.toArray⟩:ByteArray).toList=true:=by rw[HSA.out,HSB.out];exact hlt
   clear HB HSA HSB hv;clear HS HLT HGT HBL HIN HIN2 HV;obtain⟨k1,k2,k3,k4⟩:=HC.out
   clear HC;have HRES:=jq (show res=(if na then(if nb then 1 else-1) else(if nb then 1 else-1)) by cases na<;>cases nb<;>first|(rw[k1 ⟨rfl,rfl⟩];rfl)|(rw[k2 ⟨rfl,rfl⟩];rfl)|(rw[k3 ⟨rfl,rfl⟩];rfl)|(rw[k4 ⟨rfl,rfl⟩];rfl));clear k1 k2 k3 k4
   cases na<;>cases nb
   all_goals
    go_wp2_with fail
    first|go_ret|skip
    rw[HRES.out];exact⟨rfl,rfl⟩
  ·have HV:=jq hv;have HC:=jq (HS.out 0 ⟨fun _=>by omega,fun _=>by omega⟩ ⟨fun h=>by omega,fun h=>by have:=HV.out;omega⟩);have hst:=HIN.out hl hv;have hlt:Op.bytesLess s t=false:=by rw[HB.out];simp;omega
   have hlt2:Op.bytesLess (⟨s.toArray⟩:ByteArray).toList (⟨t.toArray⟩:ByteArray).toList=false:=by rw[HSA.out,HSB.out];exact hlt
   subst hst;clear HB HSA HSB hv;clear HS HLT HGT HBL HIN HIN2 HV;obtain⟨k1,k2,k3,k4⟩:=HC.out
   clear HC;have HRES:=jq (show res=(if na then(if nb then 0 else-1) else(if nb then 1 else 0)) by cases na<;>cases nb<;>first|(rw[k1 ⟨rfl,rfl⟩];rfl)|(rw[k2 ⟨rfl,rfl⟩];rfl)|(rw[k3 ⟨rfl,rfl⟩];rfl)|(rw[k4 ⟨rfl,rfl⟩];rfl));clear k1 k2 k3 k4
   cases na<;>cases nb
   all_goals
    go_wp2_with fail
    first|go_ret|skip
    rw[HRES.out];exact⟨rfl,rfl⟩
  ·have HV:=jq hv;have HC:=jq (HS.out 1 ⟨fun _=>by omega,fun _=>by omega⟩ ⟨fun h=>HV.out,fun h=>by omega⟩);have hlt:Op.bytesLess s t=false:=by rw[HB.out];simp;omega
   have hlt2:Op.bytesLess (⟨s.toArray⟩:ByteArray).toList (⟨t.toArray⟩:ByteArray).toList=false:=by rw[HSA.out,HSB.out];exact hlt
   have hne:(s==t)=false:=by
    rw[Bool.eq_false_iff];intro h
    have:=HIN2.out (by simpa using h)
    omega
   have hne2:((⟨s.toArray⟩:ByteArray).toList==(⟨t.toArray⟩:ByteArray).toList)=false:=by rw[HSA.out,HSB.out];exact hne
   clear HB HSA HSB hv;clear HS HLT HGT HBL HIN HIN2 HV;obtain⟨k1,k2,k3,k4⟩:=HC.out
   clear HC;have HRES:=jq (show res=(if na then(if nb then-1 else-1) else(if nb then 1 else 1)) by cases na<;>cases nb<;>first|(rw[k1 ⟨rfl,rfl⟩];rfl)|(rw[k2 ⟨rfl,rfl⟩];rfl)|(rw[k3 ⟨rfl,rfl⟩];rfl)|(rw[k4 ⟨rfl,rfl⟩];rfl));clear k1 k2 k3 k4
   cases na<;>cases nb
   all_goals
    go_wp2_with fail
    first|go_ret|skip
    rw[HRES.out];exact⟨rfl,rfl⟩
 ·have HV:=jq (HGT.out hl);have HC:=jq (HS.out 1 ⟨fun h=>by omega,fun h=>by have:=HV.out;omega⟩ ⟨fun _=>HV.out,fun _=>by omega⟩);clear HS HLT HGT HBL HIN HIN2 HV;obtain⟨k1,k2,k3,k4⟩:=HC.out
  clear HC;have HRES:=jq (show res=(if na then(if nb then-1 else-1) else(if nb then 1 else 1)) by cases na<;>cases nb<;>first|(rw[k1 ⟨rfl,rfl⟩];rfl)|(rw[k2 ⟨rfl,rfl⟩];rfl)|(rw[k3 ⟨rfl,rfl⟩];rfl)|(rw[k4 ⟨rfl,rfl⟩];rfl));clear k1 k2 k3 k4
  cases na<;>cases nb
  all_goals
   go_wp2_with fail
   first|go_ret|skip
   rw[HRES.out];exact⟨rfl,rfl⟩
end
section
theorem ZkP(b:List UInt8)(h:(QC b).2=false):val b≠0:=by
 intro h0;have h1:=(ZaU b).2 h0;obtain⟨hd,hz,_⟩:=XE b
 have h2:17<(Qf b).1.length:=by
  unfold QC at h
  split at h
  ·simp at h
  ·omega
 have:=Zah (s:=[]) rfl hd hz (by simp;omega)
 omega
theorem ZcE(m n:Int)(hn:n≠0):(m.tdiv n).natAbs<=m.natAbs/\(m.tmod n).natAbs<n.natAbs/\n*m.tdiv n+m.tmod n=m/\(0<=m->0<=m.tmod n)/\(m<=0->m.tmod n<=0):=by
 refine⟨?_,?_,?_,?_,?_⟩
 ·rw[Int.natAbs_tdiv];exact Nat.div_le_self _ _
 ·rw[Int.natAbs_tmod];exact Nat.mod_lt _ (by omega)
 ·exact Int.mul_tdiv_add_tmod m n
 ·exact fun h=>Int.tmod_nonneg n h
 ·intro h;have:=Int.tmod_nonneg n (show 0<= -m by omega)
  rw[Int.neg_tmod] at this;omega
theorem Zhq{a b x y:Int}(_hb:b≠0)(he:y+b*x=a)(h:(0<=y/\y<b)\/(b<y/\y<=0)):a.fdiv b=x/\a.fmod b=y:=by
 rcases h with ⟨h1,h2⟩|⟨h1,h2⟩
 ·exact(Int.fdiv_fmod_unique (by omega)).2 ⟨he,h1,h2⟩
 ·exact(Int.fdiv_fmod_unique' (by omega)).2 ⟨he,h1,h2⟩
theorem Zgn(m n:Int)(hn:n≠0):
 ((m.tmod n=0\/(decide (m.tmod n<0)=decide (n<0)))->m.fdiv n=m.tdiv n/\m.fmod n=m.tmod n)/\
 (m.tmod n≠0/\decide (m.tmod n<0)≠decide (n<0)->m.fdiv n=m.tdiv n-1/\m.fmod n=m.tmod n+n):=by
 obtain⟨_,h2,h3,_,_⟩:=ZcE m n hn
 constructor
 ·intro h;refine Zhq hn (by omega) ?_
  rcases h with h|h
  ·omega
  ·by_cases hr:m.tmod n<0
   ·have:n<0:=by rw[decide_eq_true hr] at h;simpa using h.symm
    omega
   ·have:¬n<0:=by rw[decide_eq_false hr] at h;simpa using h.symm
    omega
 ·rintro⟨h0,h⟩;refine Zhq hn (by rw[Int.mul_sub,Int.mul_one];omega) ?_
  by_cases hr:m.tmod n<0
  ·have:¬n<0:=fun hh=>h (by rw[decide_eq_true hr,decide_eq_true hh])
   omega
  ·have:n<0:=by
    rcases Int.lt_or_le n 0 with hh|hh
    ·exact hh
    ·exact absurd (by rw[decide_eq_false hr,decide_eq_false (by omega)]) h
   omega
end
section
theorem Zit(a b:List UInt8)(w:World)(ha:a.length<=100000)(hb:b.length<=100000)(h0:val b=0):Calls Tryz.prog 276 #[S a,S b] w (Xb (val a) (val b) w):=by
 have HSa:=jq (Xi a w (by omega));have HSb:=jq (Xi b w (by omega));have HPO:=jq (show Xb (val a) (val b) w=fun e w'=>e=.returned (if val b=0 then .tuple #[S [],S [],.int .i64 10] else .tuple #[S (Qe ((val a).fdiv (val b))),S (Qe ((val a).fmod (val b))),.int .i64 0])/\Below w.1.size w w' from rfl);rw[if_pos h0] at HPO
 have hkb:(QC b).2=true:=by
  cases h:(QC b).2 with
  |true=>rfl
  |false=>exact absurd h0 (ZkP b h)
 have hn:(QC b).1=0:=by rw[(Xp b).2.2 hkb,h0]
 rw[hkb,hn] at HSb;generalize Xb (val a) (val b) w=post at*;generalize (QC a).1=m at*;generalize (QC a).2=ka at*;clear ha hb h0 hkb hn;unfold S at*
 go_enter Tryz.func276,Tryz.ntmps276
 go_wp2_with fail
 refine HSa.out.mono ?_;rintro e w1 ⟨rfl,rfl⟩;go_wp2_with fail
 refine HSb.out.mono ?_;rintro e w1 ⟨rfl,rfl⟩;go_wp2_with fail
 go_ret3
 rw[HPO.out];exact⟨rfl,Below.refl _ _⟩
theorem ZcF{q m:Int}(h:q.natAbs<=m.natAbs)(h1: -100000000000000000<m)(h2:m<100000000000000000): -100000000000000000<q/\q<100000000000000000:=by omega
theorem Zgo(a b:List UInt8)(w:World)(ha:a.length<=100000)(hb:b.length<=100000)(h0:val b≠0)(hka:(QC a).2=true)(hkb:(QC b).2=true):Calls Tryz.prog 276 #[S a,S b] w (Xb (val a) (val b) w):=by
 have HSa:=jq (Xi a w (by omega));have HSb:=jq (Xi b w (by omega));have HPO:=jq (show Xb (val a) (val b) w=fun e w'=>e=.returned (if val b=0 then .tuple #[S [],S [],.int .i64 10] else .tuple #[S (Qe ((val a).fdiv (val b))),S (Qe ((val a).fmod (val b))),.int .i64 0])/\Below w.1.size w w' from rfl);rw[if_neg h0] at HPO;obtain⟨la,ua,ea⟩:=Xp a
 obtain⟨lb,ub,eb⟩:=Xp b
 rw[ea hka,hka] at HSa;rw[eb hkb,hkb] at HSb;rw[ea hka] at la ua;rw[eb hkb] at lb ub;generalize Xb (val a) (val b) w=post at*;clear ea eb ha hb hka hkb;generalize val a=m at*;generalize val b=n at*;obtain⟨t1,t2,t3,t4,t5⟩:=ZcE m n h0
 clear t3 t4 t5;have HFM:=jq (Zgn m n h0);obtain⟨q,hq⟩:∃q,m.tdiv n=q:=⟨_,rfl⟩
 obtain⟨r,hr⟩:∃r,m.tmod n=r:=⟨_,rfl⟩
 rw[hq] at t1 HFM;rw[hr] at t2 HFM;obtain⟨q1,q2⟩:=ZcF t1 la ua
 obtain⟨r1,r2⟩:=ZcF (Nat.le_of_lt t2) lb ub
 have hn0:(n==0)=false:=by simpa using h0
 have HOF:=jq (fun(W:World) (k:Int) h1 h2=>ZaL k h1 h2 W);unfold S at*
 clear t1 t2;go_enter Tryz.func276,Tryz.ntmps276
 go_wp2_with fail
 refine HSa.out.mono ?_;rintro e w1 ⟨rfl,rfl⟩;go_wp2_with fail
 refine HSb.out.mono ?_;rintro e w1 ⟨rfl,rfl⟩;go_upto_region 6 with (fail)
 go_region
 have HB:=jq (show Below w.1.size w w.drew from(Below.refl _ _).drew);generalize w.drew=W at*;clear hq hr HSa HSb hn0
 by_cases hr0:r=0
 ·obtain⟨e1,e2⟩:=HFM.out.1 (.inl hr0)
  subst hr0;have HE1:=jq e1;have HE2:=jq e2;clear e1 e2 HFM;have HOQ:=jq (HOF.out W q (by omega) (by omega));have HOR:=jq (HOF.out W 0 (by omega) (by omega));clear HOF;go_wp2_with fail
  refine HOQ.out.mono ?_;rintro e w1 ⟨rfl,rfl⟩;go_wp2_with fail
  refine HOR.out.mono ?_;rintro e w1 ⟨rfl,rfl⟩;go_wp2_with fail
  go_ret3
  rw[HPO.out,HE1.out,HE2.out];exact⟨rfl,HB.out⟩
 have hrb:(r==0)=false:=by simpa using hr0
 rcases Int.lt_or_le r 0 with h1|h1<;>rcases Int.lt_or_le n 0 with h2|h2
 ·obtain⟨e1,e2⟩:=HFM.out.1 (.inr (by rw[decide_eq_true h1,decide_eq_true h2]))
  have HE1:=jq e1;have HE2:=jq e2;clear e1 e2 HFM;have HOQ:=jq (HOF.out W q (by omega) (by omega));have HOR:=jq (HOF.out W r (by omega) (by omega));clear HOF;go_wp2_with fail
  refine HOQ.out.mono ?_;rintro e w1 ⟨rfl,rfl⟩;go_wp2_with fail
  refine HOR.out.mono ?_;rintro e w1 ⟨rfl,rfl⟩;go_wp2_with fail
  go_ret3
  rw[HPO.out,HE1.out,HE2.out];exact⟨rfl,HB.out⟩
 ·obtain⟨e1,e2⟩:=HFM.out.2 ⟨hr0,by rw[decide_eq_true h1,decide_eq_false (by omega)];simp⟩
  have HE1:=jq e1;have HE2:=jq e2;clear e1 e2 HFM;have HOQ:=jq (HOF.out W (q-1) (by omega) (by omega));have HOR:=jq (HOF.out W (r+n) (by omega) (by omega));clear HOF;have g2:¬n<0:=by omega
  go_wp2_with fail
  refine HOQ.out.mono ?_;rintro e w1 ⟨rfl,rfl⟩;go_wp2_with fail
  refine HOR.out.mono ?_;rintro e w1 ⟨rfl,rfl⟩;go_wp2_with fail
  go_ret3
  rw[HPO.out,HE1.out,HE2.out];exact⟨rfl,HB.out⟩
 ·obtain⟨e1,e2⟩:=HFM.out.2 ⟨hr0,by rw[decide_eq_false (by omega),decide_eq_true h2];simp⟩
  have HE1:=jq e1;have HE2:=jq e2;clear e1 e2 HFM;have HOQ:=jq (HOF.out W (q-1) (by omega) (by omega));have HOR:=jq (HOF.out W (r+n) (by omega) (by omega));clear HOF;have g1:¬r<0:=by omega
  go_wp2_with fail
  refine HOQ.out.mono ?_;rintro e w1 ⟨rfl,rfl⟩;go_wp2_with fail
  refine HOR.out.mono ?_;rintro e w1 ⟨rfl,rfl⟩;go_wp2_with fail
  go_ret3
  rw[HPO.out,HE1.out,HE2.out];exact⟨rfl,HB.out⟩
 ·obtain⟨e1,e2⟩:=HFM.out.1 (.inr (by rw[decide_eq_false (by omega),decide_eq_false (by omega)]))
  have HE1:=jq e1;have HE2:=jq e2;clear e1 e2 HFM;have HOQ:=jq (HOF.out W q (by omega) (by omega));have HOR:=jq (HOF.out W r (by omega) (by omega));clear HOF;have g1:¬r<0:=by omega
  have g2:¬n<0:=by omega
  go_wp2_with fail
  refine HOQ.out.mono ?_;rintro e w1 ⟨rfl,rfl⟩;go_wp2_with fail
  refine HOR.out.mono ?_;rintro e w1 ⟨rfl,rfl⟩;go_wp2_with fail
  go_ret3
  rw[HPO.out,HE1.out,HE2.out];exact⟨rfl,HB.out⟩
end
section
structure RDv (w:World) (p:Nat) (na nb:Bool) (A1 A2:Option Addr) (n1 c1 n2 c2:Nat) (ys:List Nat) (wc:World):Prop where
 x:RNumB wc p na A1 n1 c1
 y:RNumB wc (p+1) nb A2 n2 c2
 g:Gi wc wc.1.size A2 n2 ys
 bl:Below w.1.size w wc
 le:w.1.size<=p
theorem RDv.here{w:World}{p:Nat}{na nb:Bool}{A1 A2:Option Addr}{n1 c1 n2 c2:Nat}{ys:List Nat}{W W':World}(h:RDv w p na nb A1 A2 n1 c1 n2 c2 ys W)(hb:Below W.1.size W W'):RDv w p na nb A1 A2 n1 c1 n2 c2 ys W':=
 ⟨h.x.here hb,h.y.here hb,h.g.here hb,h.bl.trans (hb.mono h.bl.size),h.le⟩
theorem RNumB.two(w:World)(a b:Bool)(A B:Option Addr)(n c m d:Nat):
 RNumB ((w.alloc (.cells #[.bool a,.slice A n c] 209)).alloc (.cells #[.bool b,.slice B m d] 209)).drew w.1.size a A n c/\RNumB ((w.alloc (.cells #[.bool a,.slice A n c] 209)).alloc (.cells #[.bool b,.slice B m d] 209)).drew (w.1.size+1) b B m d/\
 Below w.1.size w ((w.alloc (.cells #[.bool a,.slice A n c] 209)).alloc (.cells #[.bool b,.slice B m d] 209)).drew:=by
 refine⟨(RNumB.new w a A n c).alloc _,?_,(((Below.refl _ _).alloc (Nat.le_refl _) _).alloc (by simp) _).drew⟩;have:=RNumB.new (w.alloc (.cells #[.bool a,.slice A n c] 209)) b B m d
 simp only[World.size_alloc] at this;exact this
theorem Zmd{na nb:Bool}{r:Nat}(h:na=nb\/r=0):sv nb r=sv na r:=by
 rcases h with h|h
 ·rw[h]
 ·subst h;cases na<;>cases nb<;>rfl
theorem Znk{na nb ng:Bool}{q Q:Nat}(hne:na≠nb)(h:sv ng Q=sv (na !=nb) q+sv true 1):sv (na !=nb) (q+1)=sv ng Q/\Q=q+1:=by
 have h2:(na !=nb)=true:=by simpa using hne
 rw[h2] at h ⊢;unfold sv at*
 cases ng<;>simp at* <;>omega
theorem Znl{na nb ng:Bool}{r v R:Nat}(hne:na≠nb)(hr:r<=v)(h:sv ng R=sv na r+sv nb v):sv nb (v-r)=sv ng R/\R<=v:=by
 unfold sv at*
 cases na<;>cases nb<;>cases ng<;>simp at* <;>omega
theorem Ziu(a b:List UInt8)(w:World)(ha:a.length<=100000)(hb:b.length<=100000)(h0:val b≠0)(hk:¬((QC a).2=true/\(QC b).2=true)):Calls Tryz.prog 276 #[S a,S b] w (Xb (val a) (val b) w):=by
 have HSa:=jq (Xi a w (by omega));have HSb:=jq (Xi b w (by omega));have HRa:=jq (YJ a w (by omega));have HRb:=jq (fun W=>YJ b W (by omega));obtain⟨K,hK⟩:∃K:Nat,K=100000:=⟨_,rfl⟩
 have HVA:=jq (Qw (show a.length<=K by omega));have HVB:=jq (Qw (show b.length<=K by omega));have HK:=jq hK;clear hK;have HSA:=jq (Xf a);have HSB:=jq (Xf b);have hv0:0<Qh (Qf b).1:=Nat.pos_of_ne_zero (fun h=>h0 ((ZaU b).1 h));have HPO:=jq (show Xb (val a) (val b) w=fun e w'=>e=.returned (if val b=0 then .tuple #[S [],S [],.int .i64 10] else .tuple #[S (Qe ((val a).fdiv (val b))),S (Qe ((val a).fmod (val b))),.int .i64 0])/\Below w.1.size w w' from rfl);rw[if_neg h0] at HPO;have hn0:(QC b).2=true->(QC b).1≠0:=fun h=>by rw[(Xp b).2.2 h];exact h0
 unfold YI at HRa HRb;generalize Xb (val a) (val b) w=post at*;generalize val a=x at*;generalize val b=y at*;generalize (Qf a).2=na at*;generalize (Qf b).2=nb at*;generalize Qh (Qf a).1=u at*;generalize Qh (Qf b).1=v at*;generalize (QC a).1=m at*;generalize (QC b).1=n at*;generalize (QC a).2=ka at*;generalize (QC b).2=kb at*;clear ha hb h0;unfold S at*
 go_enter Tryz.func276,Tryz.ntmps276
 go_wp2_with fail
 refine HSa.out.mono ?_;rintro e w1 ⟨rfl,rfl⟩;go_wp2_with fail
 refine HSb.out.mono ?_;rintro e w1 ⟨rfl,rfl⟩;clear HSa HSb
 have hcase:kb=false/\ka=false\/kb=false/\ka=true\/kb=true/\ka=false/\n≠0:=by cases ka<;>cases kb<;>simp_all
 clear hk hn0;go_upto_region 3 with (fail)
 go_cut [33] (fun s wc=>s=.bool false/\wc=w)
 case first=>
  rcases hcase with ⟨rfl,rfl⟩|⟨rfl,rfl⟩|⟨rfl,rfl,hn0⟩
  ·go_wp2_with fail
   go_meet
   exact⟨rfl,rfl⟩
  ·go_wp2_with fail
   go_meet
   exact⟨rfl,rfl⟩
  ·have hn1:(n==0)=false:=by simpa using hn0
   go_wp2_with fail
   go_meet
   exact⟨rfl,rfl⟩
 case rest=>
 obtain⟨rfl,hwc⟩:=hcut
 replace hwc:=hwc.symm;subst hwc;go_upto_region 5 with (fail)
 go_cut [37] (fun s wc=>s=.bool false/\wc=w)
 case first=>
  rcases hcase with ⟨rfl,rfl⟩|⟨rfl,rfl⟩|⟨rfl,rfl,hn0⟩
  all_goals
   go_wp2_with fail
   go_meet
   exact⟨rfl,rfl⟩
 case rest=>
 obtain⟨rfl,hwc⟩:=hcut
 replace hwc:=hwc.symm;subst hwc;clear hcase;go_wp2_with fail
 refine HRa.out.mono ?_;rintro e w1 ⟨A1,n1,c1,xs,rfl,ho1,hc1,mg1,hb1⟩;have HO1:=jq ho1;have HM1:=jq mg1;clear ho1 mg1 HRa;go_wp2_with fail
 refine(HRb.out _).mono ?_;rintro e w2 ⟨A2,n2,c2,ys,rfl,ho2,hc2,mg2,hb2⟩;have HX1:=jq (HO1.out.here hb2);have HX2:=jq ho2;have HM2:=jq mg2;clear ho2 mg2 HRb;have HL1:=jq (show n1<=K by rw[HX1.out.1];exact HM1.out.len HVA.out);have HL2:=jq (show n2<=K by rw[HX2.out.1];exact HM2.out.len HVB.out);have hb02:=hb1.trans (hb2.mono hb1.size);have hN1:RNumB ((w2.alloc (.cells #[.bool na,.slice A1 n1 c1] 209)).alloc (.cells #[.bool nb,.slice A2 n2 c2] 209)) w2.1.size na A1 n1 c1:=(RNumB.new w2 na A1 n1 c1).alloc _
 have hN2:RNumB ((w2.alloc (.cells #[.bool na,.slice A1 n1 c1] 209)).alloc (.cells #[.bool nb,.slice A2 n2 c2] 209)) (w2.1.size+1) nb A2 n2 c2:=by
  have:=RNumB.new (w2.alloc (.cells #[.bool na,.slice A1 n1 c1] 209)) nb A2 n2 c2
  simpa using this
 have hbA:Below w2.1.size w2 ((w2.alloc (.cells #[.bool na,.slice A1 n1 c1] 209)).alloc (.cells #[.bool nb,.slice A2 n2 c2] 209)):=((Below.refl _ _).alloc (Nat.le_refl _) _).alloc (by simp) _;have HX1':=jq (HX1.out.here hbA);have HX2':=jq (HX2.out.here hbA);have HST:=jq (show RDv w w2.1.size na nb A1 A2 n1 c1 n2 c2 ys _ from⟨hN1,hN2,HX2'.out,hb02.trans (hbA.mono hb02.size),hb02.size⟩);obtain⟨x0,x1⟩:=hN1.cells
 obtain⟨y0,y1⟩:=hN2.cells
 clear hN1 hN2 hbA HX1 HX2 HO1;go_upto_region 12 with (fail)
 generalize (w2.alloc (.cells #[.bool na,.slice A1 n1 c1] 209)).alloc (.cells #[.bool nb,.slice A2 n2 c2] 209)=W at*;go_wp2_with fail
 (with_reducible refine(Zfk A1 A2 n1 n2 c1 c2 xs ys u v W HX1'.out HX2'.out HM1.out HM2.out (by have:=HL1.out;have:=HK.out;omega) (by have:=HL2.out;have:=HK.out;omega) hv0).mono ?_)
 rintro e w3 ⟨A3,n3,c3,qs,A4,n4,c4,rs,rfl,hg3,hc3,mg3,hg4,hc4,mg4,hb3⟩;have HS3:=jq (HST.out.here hb3);have HG3:=jq hg3;have HG4:=jq hg4;have HM3:=jq mg3;have HM4:=jq mg4;have HL3:=jq (show n3<=K by rw[hg3.1];exact mg3.len (Nat.lt_of_le_of_lt (Nat.div_le_self _ _) HVA.out));have HL4:=jq (show n4<=K by rw[hg4.1];exact mg4.len (Nat.lt_trans (Nat.mod_lt _ hv0) HVB.out));have HNZ4:=jq (show n4=0↔u%v=0 by rw[hg4.1,<-mg4.nil_iff];exact⟨List.eq_nil_of_length_eq_zero,fun h=>by rw[h];rfl⟩);have HFD:=jq (ZgY na nb u v hv0);rw[HSA.out,HSB.out] at HFD;clear hg3 hg4 mg3 mg4 HST x0 x1 y0 y1 HX1' HX2';obtain⟨x0,x1⟩:=HS3.out.x.cells
 obtain⟨y0,y1⟩:=HS3.out.y.cells
 have hlt:w2.1.size+1<w3.1.size:=HS3.out.y.lt;have hlt':w2.1.size<w3.1.size:=by omega
 go_upto_region 13 with (fail)
 go_cut [17,18] (fun s t wc=>∃(p q:Nat),s=.pointer (some ⟨p,0,none⟩)/\t=.pointer (some ⟨q,0,none⟩)/\Hid (p≠q)/\Hid (RNumB wc p (na !=nb) A3 n3 c3)/\Hid (RNumB wc q na A4 n4 c4)/\Hid (w3.1.size<=p)/\Hid (w3.1.size<=q)/\Hid (Below w3.1.size w3 wc))
 case first=>
  go_region
  all_goals
   go_wp2_with fail
   go_meet
   first
    |exact⟨_,_,rfl,rfl,show _≠_ by omega,(RNumB.two w3 (na !=nb) na A3 A4 n3 c3 n4 c4).1,(RNumB.two w3 (na !=nb) na A3 A4 n3 c3 n4 c4).2.1,Nat.le_refl _,Nat.le_succ _,(RNumB.two w3 (na !=nb) na A3 A4 n3 c3 n4 c4).2.2⟩
    |exact⟨_,_,rfl,rfl,show _≠_ by omega,(RNumB.two w3 na (na !=nb) A4 A3 n4 c4 n3 c3).2.1,(RNumB.two w3 na (na !=nb) A4 A3 n4 c4 n3 c3).1,Nat.le_succ _,Nat.le_refl _,(RNumB.two w3 na (na !=nb) A4 A3 n4 c4 n3 c3).2.2⟩
 case rest=>
 obtain⟨p,q,rfl,rfl,HPQ,HB1,HB2,HP1,HP2,hbc⟩:=hcut
 obtain⟨w4,rfl⟩:∃W,W=wc:=⟨_,rfl⟩
 have HS4:=jq (HS3.out.here hbc.out);have HG3':=jq (HG3.out.here hbc.out);have HG4':=jq (HG4.out.here hbc.out);have HYP:=jq (show w2.1.size+1<p by have:=HP1.out;omega);have HYQ:=jq (show w2.1.size+1<q by have:=HP2.out;omega);have HW2:=jq (show w.1.size<=w2.1.size from HS4.out.le);clear HS3 HG3 HG4 x0 x1 y0 y1 hlt hlt' hbc HP1 HP2;obtain⟨x0,x1⟩:=HS4.out.x.cells
 obtain⟨y0,y1⟩:=HS4.out.y.cells
 obtain⟨p0,p1⟩:=HB1.out.cells
 obtain⟨q0,q1⟩:=HB2.out.cells
 obtain⟨bb,hbb⟩:∃bb:Bool,bb=(decide (0<n4)&&(na !=nb)):=⟨_,rfl⟩
 have HBB:=jq hbb;clear hbb;go_upto_region 14 with (fail)
 go_cut [94] (fun s wc=>s=.bool bb/\wc=w4)
 case first=>
  rcases Nat.eq_zero_or_pos n4 with h4|h4
  ·subst h4;go_wp2_with fail
   go_meet
   exact⟨by rw[HBB.out];rfl,rfl⟩
  ·have h5:decide (0<n4)=true:=by simpa using h4
   have HH:=jq h5
   cases na<;>cases nb
   all_goals
    go_wp2_with fail
    go_meet
    exact⟨by rw[HBB.out,HH.out];rfl,rfl⟩
 case rest=>
 obtain⟨rfl,hwc⟩:=hcut
 replace hwc:=hwc.symm;subst hwc;go_upto_if 94 with (fail)
 go_cut [17] (fun s wc=>s=.pointer (some ⟨p,0,none⟩)/\∃(ng1:Bool) (A5:Option Addr) (n5 c5:Nat) (ng2:Bool) (A6:Option Addr) (n6 c6:Nat) (qs' rs':List Nat) (Q R:Nat),Hid (RNumB wc p ng1 A5 n5 c5)/\Hid (RNumB wc q ng2 A6 n6 c6)/\Hid (Gi wc wc.1.size A5 n5 qs')/\Hid (Gi wc wc.1.size A6 n6 rs')/\Hid (n5<=K+1)/\Hid (n6<=K+1)/\Hid (Mag qs' Q)/\Hid (Mag rs' R)/\Hid (x.fdiv y=sv ng1 Q)/\Hid (x.fmod y=sv ng2 R)/\Hid (Below w.1.size w wc))
 case first=>
  cases bb with
  |false=>
   have hor:na=nb\/u%v=0:=by
    have h1:=HBB.out
    by_cases h:na=nb
    ·exact .inl h
    ·refine .inr (HNZ4.out.1 ?_);have h2:(na !=nb)=true:=by simpa using h
     rw[h2] at h1;simp at h1;exact h1
   have HEQ:=jq (HFD.out.1 hor);have HSW:=jq (Zmd hor);clear hor;go_wp2_with fail
   go_meet
   exact⟨rfl,na !=nb,A3,n3,c3,na,A4,n4,c4,qs,rs,u/v,u%v,HB1,HB2,HG3',HG4',by show _<=_;have:=HL3.out;omega,by show _<=_;have:=HL4.out;omega,HM3,HM4,HEQ.out.1,by show _=_;rw[HEQ.out.2,HSW.out],HS4.out.bl⟩
  |true=>
   have hne:na≠nb/\0<n4:=by have h1:=HBB.out;simp at h1;exact⟨h1.2,h1.1⟩
   have hr0:0<u%v:=Nat.pos_of_ne_zero (fun h=>by have:=HNZ4.out.2 h;omega);have HEQ:=jq (HFD.out.2 ⟨hne.1,hr0⟩);have HNE:=jq hne.1;clear hne;have hbA:Below w4.1.size w4 (w4.alloc (.cells #[.int .i64 1] 3)):=(Below.refl _ _).alloc (Nat.le_refl _) _
   have HSL:=jq (show Gi (w4.alloc (.cells #[.int .i64 1] 3)) (w4.alloc (.cells #[.int .i64 1] 3)).heap.size (some ⟨w4.1.size,0,none⟩) 1 [1] by
    have:=Sl.lit (enc:=G1) w4 #[.int .i64 1] 3 [1] rfl QQ
    simpa using this)
   have HAD:=jq (Zbb (na !=nb) true A3 (some ⟨w4.1.size,0,none⟩) n3 1 c3 1 qs [1] (u/v) 1 (w4.alloc (.cells #[.int .i64 1] 3)) (HG3'.out.here hbA) HSL.out HM3.out (Mag.one' (by omega) (by omega)) (by have:=HL3.out;have:=HK.out;omega) (by omega));have HBA:=jq hbA;clear hbA HSL;go_upto_region 15 with (fail)
   go_wp2_with fail
   refine HAD.out.mono ?_;rintro e w5 ⟨ng1,A5,n5,c5,qs',Q,rfl,hg5,hc5,mg5,hs5,hb5⟩;have hb45:Below w4.1.size w4 w5:=HBA.out.trans (hb5.mono HBA.out.size);have HS5:=jq (HS4.out.here hb45);have HB15:=jq (HB1.out.here hb45);have HB25:=jq (HB2.out.here hb45);have HG45:=jq (HG4'.out.here hb45);have HG5:=jq hg5;have HM5:=jq mg5;obtain⟨e1,e2⟩:=Znk HNE.out hs5
   have HQ1:=jq e1;have HQ2:=jq e2;have f0:=HB15.out.frozen 0;have f1:=HB15.out.frozen 1;clear x0 x1 y0 y1 p0 p1 q0 q1 hg5 mg5 hs5 hb5 hb45 e1 e2 HAD HBA;obtain⟨p0,p1⟩:=HB15.out.cells
   go_upto_region 16 with (fail)
   have HB16:=jq (HB15.out.set_ (neg':=ng1) (A':=A5) (n':=n5) (c':=c5));have HB26:=jq ((HB25.out.far (a:=⟨p,0,none⟩) (fun h=>HPQ.out h.symm) (.bool ng1)).far (a:=⟨p,1,none⟩) (fun h=>HPQ.out h.symm) (.slice A5 n5 c5));have HY6:=jq ((HS5.out.y.far (a:=⟨p,0,none⟩) (by have:=HYP.out;simp only;omega) (.bool ng1)).far (a:=⟨p,1,none⟩) (by have:=HYP.out;simp only;omega) (.slice A5 n5 c5));have HG46:=jq (HB15.out.apart HG45.out (.bool ng1) (.slice A5 n5 c5));have HG26:=jq (HB15.out.apart HS5.out.g (.bool ng1) (.slice A5 n5 c5));have HG56:=jq (HB15.out.apart HG5.out (.bool ng1) (.slice A5 n5 c5));have HBL6:=jq ((HS5.out.bl.setCell (p:=⟨p,0,none⟩) (by have:=HYP.out;have:=HW2.out;simp only;omega) (.bool ng1)).setCell (p:=⟨p,1,none⟩) (by have:=HYP.out;have:=HW2.out;simp only;omega) (.slice A5 n5 c5));have HZ6:=jq (show((w5.setCell ⟨p,0,none⟩ (.bool ng1)).setCell ⟨p,1,none⟩ (.slice A5 n5 c5)).heap.size=w5.1.size by simp);generalize (w5.setCell ⟨p,0,none⟩ (.bool ng1)).setCell ⟨p,1,none⟩ (.slice A5 n5 c5)=w6 at*;rw[<-HZ6.out] at HG46 HG26 HG56;clear p0 p1 f0 f1 HB15 HB25 HS5 HG45 HG5 HZ6;obtain⟨q0,q1⟩:=HB26.out.cells
   obtain⟨y0,y1⟩:=HY6.out.cells
   have HAD:=jq (Zbb na nb A4 A2 n4 n2 c4 c2 rs ys (u%v) v w6 HG46.out HG26.out HM4.out HM2.out (by have:=HL4.out;have:=HK.out;omega) (by have:=HL2.out;have:=HK.out;omega));go_wp2_with fail
   refine HAD.out.mono ?_;rintro e w7 ⟨ng2,A6,n6,c6,rs',R,rfl,hg7,hc7,mg7,hs7,hb7⟩;have HB17:=jq (HB16.out.here hb7);have HB27:=jq (HB26.out.here hb7);have HG57:=jq (HG56.out.here hb7);have HG7:=jq hg7;have HM7:=jq mg7;have HBL7:=jq (HBL6.out.trans (hb7.mono HBL6.out.size));obtain⟨e1,e2⟩:=Znl HNE.out (Nat.le_of_lt (Nat.mod_lt _ hv0)) hs7
   have HR1:=jq e1;have HR2:=jq e2;have f0:=HB27.out.frozen 0;have f1:=HB27.out.frozen 1;clear y0 y1 q0 q1 hg7 mg7 hs7 hb7 e1 e2 HAD;obtain⟨q0,q1⟩:=HB27.out.cells
   go_wp2_with fail
   go_meet
   refine⟨rfl,ng1,A5,n5,c5,ng2,A6,n6,c6,qs',rs',Q,R,?_,HB27.out.set_,?_,?_,?_,?_,HM5,HM7,?_,?_,?_⟩
   ·exact(HB17.out.far (a:=⟨q,0,none⟩) (fun h=>HPQ.out h) (.bool ng2)).far (a:=⟨q,1,none⟩) (fun h=>HPQ.out h) (.slice A6 n6 c6)
   ·exact(HB27.out.apart HG57.out (.bool ng2) (.slice A6 n6 c6)).more (by simp)
   ·exact(HB27.out.apart HG7.out (.bool ng2) (.slice A6 n6 c6)).more (by simp)
   ·show _<=_
    rw[HG57.out.1];refine HM5.out.len ?_;rw[HQ2.out,Nat.pow_succ];have h1:=Nat.div_le_self u v;have h2:=HVA.out;omega
   ·show _<=_
    rw[HG7.out.1];refine HM7.out.len ?_;rw[Nat.pow_succ];have h2:=HVB.out;have h3:=HR2.out;omega
   ·show _=_
    rw[HEQ.out.1,HQ1.out]
   ·show _=_
    rw[HEQ.out.2,HR1.out]
   ·exact(HBL7.out.setCell (p:=⟨q,0,none⟩) (by have:=HYQ.out;have:=HW2.out;simp only;omega) (.bool ng2)).setCell (p:=⟨q,1,none⟩) (by have:=HYQ.out;have:=HW2.out;simp only;omega) (.slice A6 n6 c6)
 case rest=>
 obtain⟨rfl,ng1,A5,n5,c5,ng2,A6,n6,c6,qs',rs',Q,R,HB1',HB2',HG5,HG6,HL5,HL6,HM5,HM6,HE1,HE2,HBL⟩:=hcut
 obtain⟨w8,rfl⟩:∃W,W=wc:=⟨_,rfl⟩
 clear x0 x1 y0 y1 p0 p1 q0 q1 HB1 HB2 HG3' HG4';obtain⟨p0,p1⟩:=HB1'.out.cells
 obtain⟨q0,q1⟩:=HB2'.out.cells
 have HT1:=jq (VM ng1 A5 n5 c5 qs' w8.drew HG5.out.drew HM5.out.gs (by have:=HL5.out;have:=HK.out;omega));rw[HM5.out.val,XX,<-HE1.out] at HT1;have HT2:=jq (fun W (hb:Below w8.1.size w8 W)=>VM ng2 A6 n6 c6 rs' W (HG6.out.here hb) HM6.out.gs (by have:=HL6.out;have:=HK.out;omega));rw[HM6.out.val,XX,<-HE2.out] at HT2;unfold S at HT1 HT2;go_upto_region 17 with (fail)
 go_region_held3 (fun w'=>w'.cell? ⟨p,0,none⟩=some (.bool ng1)/\w'.cell? ⟨p,1,none⟩=some (.slice A5 n5 c5)/\w'.cell? ⟨q,0,none⟩=some (.bool ng2)/\w'.cell? ⟨q,1,none⟩=some (.slice A6 n6 c6))
  (first
    |go_keep
    |exact⟨(HB1'.out.here hbz).cells.1,(HB1'.out.here hbz).cells.2,(HB2'.out.here hbz).cells.1,(HB2'.out.here hbz).cells.2⟩
    |exact⟨(HB1'.out.here hbz2).cells.1,(HB1'.out.here hbz2).cells.2,(HB2'.out.here hbz2).cells.1,(HB2'.out.here hbz2).cells.2⟩)
  (first
    |(go_at_call_of 190 (Value.agg #[.bool ng1,.slice A5 n5 c5]);refine HT1.out.mono ?_;rintro e w9 ⟨rfl,hb9⟩
      have hbz:Below w8.1.size w8 w9:=(Below.refl _ w8).drew.trans hb9)
    |(go_at_call 190;refine(HT2.out _ hbz).mono ?_;rintro e w10 ⟨rfl,hb10⟩
      have hbz2:Below w8.1.size w8 w10:=hbz.trans (hb10.mono hbz.size)))
 all_goals
  go_wp2_with fail
  go_ret3
  rw[HPO.out];exact⟨rfl,HBL.out.trans (hbz2.mono HBL.out.size)⟩
end
section
theorem Zfo(a b:List UInt8)(w:World)(ha:a.length<=100000)(hb:b.length<=100000):Calls Tryz.prog 276 #[S a,S b] w (Xb (val a) (val b) w):=by
 by_cases h0:val b=0
 ·exact Zit a b w ha hb h0
 ·by_cases hk:(QC a).2=true/\(QC b).2=true
  ·exact Zgo a b w ha hb h0 hk.1 hk.2
  ·exact Ziu a b w ha hb h0 hk
end
end Go.Proofs.YtmfjmngebldanaaGreatDoor
