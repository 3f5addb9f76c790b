/- N9, N10. -/
import Derived.Test.YtokjnjdbnabchaaGreatDoorQGEp2
import Derived.Deep.RegionHeld3
set_option maxRecDepth 20000
set_option maxHeartbeats 4000000
namespace Go.Proofs.YtokjnjdbnabchaaGreatDoor
open Go.Lib renaming hid→jq
open Go.RowKit Go.Shelf
section
def sv(neg:Bool)(u:Nat):Int:=if neg then-(u:Int) else u
theorem Ym(neg:Bool)(u:Nat):Zhc neg u=Qb (sv neg u):=rfl
def NumB(w:World)(p:Nat)(neg:Bool)(A:Option Addr)(n c:Nat):Prop:=w.heap[p]?=some (.cells #[.bool neg,.slice A n c] 106 (0,0))
section
variable {w w':World} {p q:Nat} {neg:Bool} {A:Option Addr} {n c:Nat}
theorem NumB.lt(h:NumB w p neg A n c):p<w.1.size:=(Array.getElem?_eq_some_iff.1 h).1
theorem NumB.cells(h:NumB w p neg A n c):w.cell? ⟨p,0,none⟩=some (.bool neg)/\w.cell? ⟨p,1,none⟩=some (.slice A n c):=
 ⟨cell_of_row w p 0 _ 106 (0,0) h,cell_of_row w p 1 _ 106 (0,0) h⟩
theorem NumB.frozen(h:NumB w p neg A n c)(j:Nat):w.frozen? ⟨p,j,none⟩=false:=by
 unfold NumB at h;simp[World.frozen?,h]
theorem NumB.below{N:Nat}(h:NumB w p neg A n c)(hb:Below N w w')(hg:p<N):NumB w' p neg A n c:=(hb.block p hg).trans h
theorem NumB.here(h:NumB w p neg A n c)(hb:Below w.1.size w w'):NumB w' p neg A n c:=h.below hb h.lt
theorem NumB.new(w:World)(neg:Bool)(A:Option Addr)(n c:Nat):NumB (w.alloc (.cells #[.bool neg,.slice A n c] 106)) w.1.size neg A n c:=heap_alloc_new w _
theorem NumB.far(h:NumB w p neg A n c){a:Addr}(hp:p≠a.block)(u:Value):NumB (w.setCell a u) p neg A n c:=(Below.heap_setCell w a u p hp).trans h
theorem NumB.set_{neg':Bool}{A':Option Addr}{n' c':Nat}(h:NumB w p neg A n c):NumB ((w.setCell ⟨p,0,none⟩ (.bool neg')).setCell ⟨p,1,none⟩ (.slice A' n' c')) p neg' A' n' c':=by
 unfold NumB at h ⊢;rw[heap_setCell_same _ p 1 _ 106 _ (heap_setCell_same w p 0 _ 106 _ h)];rfl
theorem NumB.alloc(h:NumB w p neg A n c)(o:Obj):NumB (w.alloc o) p neg A n c:=(Below.heap_alloc w o p h.lt).trans h
end
def Zbu(s:Int)(w:World)(e:Ending)(w':World):Prop:=
 ∃ng A n c xs r,e=.returned (.agg #[.bool ng,.slice A n c])/\Own U1 1 138 w' w.1.size (.slice A n c) xs/\Mag xs r/\sv ng r=s/\Below w.1.size w w'
theorem ZdN(nx ny:Bool)(A A':Option Addr)(n m c c':Nat)(xs ys:List Nat)(u v:Nat)(w:World)(hx:Gr w w.1.size A n xs)(hy:Gr w w.1.size A' m ys)(mx:Mag xs u)(my:Mag ys v)(hn:n<=1000000)(hm:m<=1000000):
 Calls Tryz.prog 67 #[.agg #[.bool nx,.slice A n c],.agg #[.bool ny,.slice A' m c']] w (Zbu (sv nx u+sv ny v) w):=by
 have HPO:=jq (show Zbu (sv nx u+sv ny v) w=fun e w'=>∃ng A n c xs r,e=.returned (.agg #[.bool ng,.slice A n c])/\Own U1 1 138 w' w.1.size (.slice A n c) xs/\Mag xs r/\sv ng r=sv nx u+sv ny v/\Below w.1.size w w' from rfl);generalize Zbu (sv nx u+sv ny v) w=post at*
 have hb0:Below w.1.size w (((w.alloc (.cells #[.bool nx,.slice A n c] 106)).alloc (.cells #[.bool ny,.slice A' m c'] 106)).alloc (.cells #[.bool false,.slice none 0 0] 106)):=
  (((Below.refl _ _).alloc (Nat.le_refl _) _).alloc (by simp) _).alloc (by simp;omega) _
 have hN1:=((NumB.new w nx A n c).alloc (.cells #[.bool ny,.slice A' m c'] 106)).alloc (.cells #[.bool false,.slice none 0 0] 106)
 have hN2:NumB (((w.alloc (.cells #[.bool nx,.slice A n c] 106)).alloc (.cells #[.bool ny,.slice A' m c'] 106)).alloc (.cells #[.bool false,.slice none 0 0] 106)) (w.1.size+1) ny A' m c':=by
  have:=(NumB.new (w.alloc (.cells #[.bool nx,.slice A n c] 106)) ny A' m c').alloc (.cells #[.bool false,.slice none 0 0] 106)
  simpa using this
 have hN3:NumB (((w.alloc (.cells #[.bool nx,.slice A n c] 106)).alloc (.cells #[.bool ny,.slice A' m c'] 106)).alloc (.cells #[.bool false,.slice none 0 0] 106)) (w.1.size+1+1) false none 0 0:=by
  have:=NumB.new ((w.alloc (.cells #[.bool nx,.slice A n c] 106)).alloc (.cells #[.bool ny,.slice A' m c'] 106)) false none 0 0
  simpa using this
 have HX0:=jq hx;have HY0:=jq hy;have HX:=jq (hx.here hb0);have HY:=jq (hy.here hb0);have HMX:=jq mx;have HMY:=jq my;have HB0:=jq hb0;have HN1:=jq hN1;have HN2:=jq hN2;have HN3:=jq hN3;obtain⟨p0,p1⟩:=hN1.cells
 obtain⟨q0,q1⟩:=hN2.cells
 clear hx hy mx my hb0 hN1 hN2 hN3;go_enter Tryz.func67,Tryz.ntmps67
 by_cases hs:nx=ny
 ·subst hs;have hsb:(nx==nx)=true:=by simp
  go_upto_region 2 with (fail)
  generalize ((w.alloc (.cells #[.bool nx,.slice A n c] 106)).alloc (.cells #[.bool nx,.slice A' m c'] 106)).alloc (.cells #[.bool false,.slice none 0 0] 106)=W0 at*;have HPL:=jq (Zcg A A' n m c c' xs ys u v W0.drew HX.out.drew HY.out.drew HMX.out HMY.out hn hm);have hbw:=HB0.out
  go_region_with (go_at_call 112;refine HPL.out.mono ?_;rintro e w1 ⟨A1,n1,c1,zs,rfl,ho1,mg1,hb1⟩
                  have hbz:Below W0.1.size W0 w1:=(Below.refl _ W0).drew.trans hb1;have r0:=(HN3.out.here hbz).cells.1;have r1:=(HN3.out.here hbz).cells.2;have f0:=(HN3.out.here hbz).frozen 0;have f1:=(HN3.out.here hbz).frozen 1;have s0:=(HN1.out.here hbz).cells.1;have HO1:=jq ho1;have HG1:=jq mg1;clear ho1 mg1 hb1)
  all_goals
   go_wp2
   refine bodyPost_ret (v:=.agg #[.bool nx,.slice A1 n1 c1]) (by simp[results,Tryz.results67,go_sem,r0,r1]) rfl ?_;rw[HPO.out];have hW:=HN3.out.lt
   have hne:(Value.slice A1 n1 c1).ownBlock≠some (w.1.size+1+1):=by
    rcases HO1.out.facts.2.2.2 with ⟨rfl,_⟩|⟨g,rfl,hg1,hg2⟩
    ·simp[Value.ownBlock]
    ·simp only[Value.ownBlock];intro h;injection h with h;simp at hg1;omega
   refine⟨nx,A1,n1,c1,zs,u+v,rfl,((HO1.out.far hne _).far hne _).base_ (by simp;omega),HG1.out,by cases nx<;>simp[sv]<;>omega,?_⟩;exact((HB0.out.trans (hbz.mono HB0.out.size)).setCell (by simp only;omega) _).setCell (by simp only;omega) _
 ·have hsb:(nx==ny)=false:=by cases nx<;>cases ny<;>simp_all
  have HSS:=jq hs;clear hs;go_wp2_with fail
  generalize ((w.alloc (.cells #[.bool nx,.slice A n c] 106)).alloc (.cells #[.bool ny,.slice A' m c'] 106)).alloc (.cells #[.bool false,.slice none 0 0] 106)=W0 at*;refine(Xt A A' n m c c' xs ys u v W0 HX.out HY.out HMX.out HMY.out hn hm).mono ?_;rintro e w1 ⟨r,rfl,hr1,hr2,_,_,hb1⟩;have hp1:=(HN1.out.here hb1).cells;have hq1:=(HN2.out.here hb1).cells;obtain⟨x0,x1⟩:=hp1
  obtain⟨y0,y1⟩:=hq1
  have fp0:=(HN1.out.here hb1).frozen 0;have fp1:=(HN1.out.here hb1).frozen 1;have fq0:=(HN2.out.here hb1).frozen 0;have fq1:=(HN2.out.here hb1).frozen 1;have HR1:=jq hr1;clear hr1 hr2;clear p0 p1 q0 q1;go_upto_if 23 with (fail)
  go_cut [4] (fun s wc=>∃(n1:Bool) (B1 B2:Option Addr) (l1 l2 d1 d2:Nat) (gs1 gs2:List Nat) (a b:Nat),s=.pointer (some ⟨w.1.size+1+1,0,none⟩)/\Hid (NumB wc w.1.size n1 B1 l1 d1)/\Hid (∃n2,NumB wc (w.1.size+1) n2 B2 l2 d2)/\Hid (NumB wc (w.1.size+1+1) false none 0 0)/\Hid (Gr wc wc.1.size B1 l1 gs1)/\Hid (Gr wc wc.1.size B2 l2 gs2)/\Hid (Mag gs1 a)/\Hid (Mag gs2 b)/\b<=a/\l1<=1000000/\Hid (sv n1 (a-b)=sv nx u+sv ny v)/\Below w.1.size w wc)
  case first=>
   by_cases huv:u<v
   ·have hrn:r<0:=HR1.out.2 huv;go_wp2_with fail
    go_meet
    have hb2:=HB0.out.trans (hb1.mono HB0.out.size);have hb4:=(((hb2.setCell (p:=⟨w.1.size,0,none⟩) (Nat.le_refl _) (.bool ny)).setCell (p:=⟨w.1.size,1,none⟩) (Nat.le_refl _) (.slice A' m c')).setCell (p:=⟨w.1.size+1,0,none⟩) (by simp) (.bool nx)).setCell (p:=⟨w.1.size+1,1,none⟩) (by simp) (.slice A n c);refine⟨ny,A',A,m,n,c',c,ys,xs,v,u,rfl,?_,⟨nx,?_⟩,?_,HY0.out.here hb4,HX0.out.here hb4,HMY,HMX,by omega,hm,?_,hb4⟩
    ·exact(((HN1.out.here hb1).set_).far (by simp) _).far (by simp) _
    ·exact(((HN2.out.here hb1).far (by simp) _).far (by simp) _).set_
    ·exact((((HN3.out.here hb1).far (by simp;omega) _).far (by simp;omega) _).far (by simp) _).far (by simp) _
    ·show sv ny (v-u)=sv nx u+sv ny v
     have h1:=HSS.out
     cases nx<;>cases ny<;>simp_all [sv]<;>omega
   ·have hrn:¬r<0:=fun h=>huv (HR1.out.1 h)
    have hrd:decide (r<0)=false:=by simpa using hrn
    go_wp2_with fail
    go_meet
    exact⟨nx,A,A',n,m,c,c',xs,ys,u,v,rfl,HN1.out.here hb1,⟨ny,HN2.out.here hb1⟩,HN3.out.here hb1,HX.out.here hb1,HY.out.here hb1,HMX,HMY,by omega,hn,by
     show sv nx (u-v)=sv nx u+sv ny v
     have h1:=HSS.out
     cases nx<;>cases ny<;>simp_all [sv]<;>omega,HB0.out.trans (hb1.mono HB0.out.size)⟩
  case rest=>
  clear x0 x1 y0 y1 fp0 fp1 fq0 fq1 HN1 HN2 HN3 HX HY hb1 HR1 HX0 HY0 HMX HMY hn hm HB0;obtain⟨n1,B1,B2,l1,l2,d1,d2,gs1,gs2,a,b,rfl,HN1,HN2,HN3,HX,HY,HMX,HMY,hba,hl1,HSV,hbc⟩:=hcut
  obtain⟨W2,rfl⟩:∃W,W=wc:=⟨_,rfl⟩
  obtain⟨n2,hN2⟩:=HN2.out
  obtain⟨x0,x1⟩:=HN1.out.cells
  have y1:=hN2.cells.2;have HN2':=jq hN2;clear hN2 HN2;have HPL:=jq (ZaT B1 B2 l1 l2 d1 d2 gs1 gs2 a b W2.drew HX.out.drew HY.out.drew HMX.out HMY.out hl1 hba);go_wp2_with fail
  go_region_with (go_at_call 114;refine HPL.out.mono ?_;rintro e w1 ⟨A1,k1,c1,zs,rfl,ho1,mg1,hb1⟩
                  have hbz:Below W2.1.size W2 w1:=(Below.refl _ W2).drew.trans hb1;have r0:=(HN3.out.here hbz).cells.1;have r1:=(HN3.out.here hbz).cells.2;have f0:=(HN3.out.here hbz).frozen 0;have f1:=(HN3.out.here hbz).frozen 1;have s0:=(HN1.out.here hbz).cells.1;have HO1:=jq ho1;have HG1:=jq mg1;clear ho1 mg1 hb1)
  all_goals
   go_wp2
   refine bodyPost_ret (v:=.agg #[.bool n1,.slice A1 k1 c1]) (by simp[results,Tryz.results67,go_sem,r0,r1]) rfl ?_;rw[HPO.out];have hW:=HN3.out.lt
   have hne:(Value.slice A1 k1 c1).ownBlock≠some (w.1.size+1+1):=by
    rcases HO1.out.facts.2.2.2 with ⟨rfl,_⟩|⟨g,rfl,hg1,hg2⟩
    ·simp[Value.ownBlock]
    ·simp only[Value.ownBlock];intro h;injection h with h;simp at hg1;omega
   refine⟨n1,A1,k1,c1,zs,a-b,rfl,((HO1.out.far hne _).far hne _).base_ (by simp;omega),HG1.out,HSV.out,?_⟩;exact((hbc.trans (hbz.mono hbc.size)).setCell (by simp only;omega) _).setCell (by simp only;omega) _
end
section
theorem Xw(a:List UInt8):sv (Qf a).2 (Qg (Qf a).1)=val a:=rfl
theorem Qr{a:List UInt8}{k:Nat}(h:a.length<=k):Qg (Qf a).1<1000000000^k:=by
 have h1:=Vw (Vx a).1;have h2:=Vv a;have h3:10^(Qf a).1.length<=10^k:=Nat.pow_le_pow_right (by omega) (by omega);have h4:10^k<=1000000000^k:=Nat.pow_le_pow_left (by omega) k;omega
theorem ZhZ{ng:Bool}{r u v k:Nat}{nx ny:Bool}(h:sv ng r=sv nx u+sv ny v)(hu:u<1000000000^k)(hv:v<1000000000^k):r<1000000000^(k+1):=by
 have:r<=u+v:=by cases ng<;>cases nx<;>cases ny<;>simp[sv] at h<;>omega
 rw[Nat.pow_succ];omega
def QH(l:List UInt8)(w:World)(e:Ending)(w':World):Prop:=e=.returned (S l)/\Below w.1.size w w'
theorem Zbv(a b:List UInt8)(w:World)(hp:Pow w)(ha:a.length<=100000)(hb:b.length<=100000):Calls Tryz.prog 30 #[S a,S b] w (QH (Qb (val a+val b)) w):=by
 have HRa:=jq (QF a w (by omega));have HRb:=jq (fun W=>QF b W (by omega));obtain⟨K,hK⟩:∃K:Nat,K=100000:=⟨_,rfl⟩
 have hva:=Qr (show a.length<=K by omega);have hvb:=Qr (show b.length<=K by omega);have HK:=jq hK;clear hK;have HS:=jq (show sv (Qf a).2 (Qg (Qf a).1)+sv (Qf b).2 (Qg (Qf b).1)=val a+val b by rw[Xw,Xw]);have HPO:=jq (show QH (Qb (val a+val b)) w=fun e w'=>e=.returned (S (Qb (val a+val b)))/\Below w.1.size w w' from rfl);unfold QW at HRa HRb;have HVA:=jq hva;have HVB:=jq hvb;have HP:=jq hp;generalize QH (Qb (val a+val b)) w=post at*;generalize (Qf a).2=na at*;generalize (Qf b).2=nb at*;generalize Qg (Qf a).1=u at*;generalize Qg (Qf b).1=v at*;clear ha hb hva hvb hp;unfold S at*
 go_enter Tryz.func30,Tryz.ntmps30
 go_wp2_with fail
 refine HRa.out.mono ?_;rintro e w1 ⟨A1,n1,c1,xs,rfl,ho1,mg1,hb1⟩;have HO1:=jq ho1;have HM1:=jq mg1;clear ho1 mg1 HRa;go_wp2_with fail
 refine(HRb.out _).mono ?_;rintro e w2 ⟨A2,n2,c2,ys,rfl,ho2,mg2,hb2⟩;have HO2:=jq ho2;have HM2:=jq mg2;clear ho2 mg2 HRb;have HX1:=jq ((HO1.out.below hb2).sl Qc);have HX2:=jq (HO2.out.sl Qc);have HL1:=jq (show n1<=K by rw[HX1.out.1];exact HM1.out.len HVA.out);have HL2:=jq (show n2<=K by rw[HX2.out.1];exact HM2.out.len HVB.out);have hb02:=hb1.trans (hb2.mono hb1.size);go_wp2_with fail
 refine(ZdN na nb A1 A2 n1 n2 c1 c2 xs ys u v w2 HX1.out HX2.out HM1.out HM2.out (by have:=HL1.out;have:=HK.out;omega) (by have:=HL2.out;have:=HK.out;omega)).mono ?_;rintro e w3 ⟨ng,A3,n3,c3,zs,r,rfl,ho3,mg3,hsv,hb3⟩;have HX3:=jq (ho3.sl Qc);have HL3:=jq (show n3<=K+1 by rw[HX3.out.1];exact mg3.len (ZhZ hsv HVA.out HVB.out));have hcap:n3<=c3:=by obtain⟨h1,h2,_⟩:=ho3.facts;omega
 have HM3:=jq mg3;have HSV:=jq hsv;have hb03:=hb02.trans (hb3.mono hb02.size);clear ho3 mg3 hsv;have HTX:=jq (XD ng A3 n3 c3 zs w3 HX3.out HM3.out.gs hcap (by have:=HL3.out;have:=HK.out;omega) (HP.out.here hb03));rw[HM3.out.val,Ym,HSV.out,HS.out] at HTX;unfold S at HTX;go_wp2_with fail
 refine HTX.out.mono ?_;rintro e w4 ⟨rfl,hb4⟩;go_wp2_with fail
 rw[HPO.out];exact⟨rfl,hb03.trans (hb4.mono hb03.size)⟩
theorem Zfm(nb:Bool)(v:Nat):sv (!nb) v= -sv nb v:=by cases nb<;>simp[sv]
theorem Zhg(a b:List UInt8)(w:World)(hp:Pow w)(ha:a.length<=100000)(hb:b.length<=100000):Calls Tryz.prog 101 #[S a,S b] w (QH (Qb (val a-val b)) w):=by
 have HRa:=jq (fun W=>QF a W (by omega));have HRb:=jq (QF b w (by omega));obtain⟨K,hK⟩:∃K:Nat,K=100000:=⟨_,rfl⟩
 have hva:=Qr (show a.length<=K by omega);have hvb:=Qr (show b.length<=K by omega);have HK:=jq hK;clear hK;have HS:=jq (show sv (Qf a).2 (Qg (Qf a).1)+sv (!(Qf b).2) (Qg (Qf b).1)=val a-val b by rw[Zfm,Xw,Xw];omega);have HPO:=jq (show QH (Qb (val a-val b)) w=fun e w'=>e=.returned (S (Qb (val a-val b)))/\Below w.1.size w w' from rfl);unfold QW at HRa HRb;have HVA:=jq hva;have HVB:=jq hvb;have HP:=jq hp;generalize QH (Qb (val a-val b)) w=post at*;generalize (Qf a).2=na at*;generalize (Qf b).2=nb at*;generalize Qg (Qf a).1=u at*;generalize Qg (Qf b).1=v at*;clear ha hb hva hvb hp;unfold S at*
 go_enter Tryz.func101,Tryz.ntmps101
 go_wp2_with fail
 refine HRb.out.mono ?_;rintro e w1 ⟨A2,n2,c2,ys,rfl,ho2,mg2,hb1⟩;have HO2:=jq ho2;have HM2:=jq mg2;clear ho2 mg2 HRb;go_wp2_with fail
 have HN:=jq (NumB.new w1 (!nb) A2 n2 c2);have hbA:=(Below.refl w1.1.size w1).alloc (Nat.le_refl _) (.cells #[.bool (!nb),.slice A2 n2 c2] 106);have HX2:=jq ((HO2.out.below hbA).sl Qc);have HL2:=jq (show n2<=K by rw[HX2.out.1];exact HM2.out.len HVB.out);have hb0A:=hb1.trans (hbA.mono hb1.size);obtain⟨y0,y1⟩:=HN.out.cells
 generalize w1.alloc _=W2 at*;generalize (!nb)=ny at*
 go_region_with (first
  |(go_at_call 68;refine(HRa.out _).mono ?_;rintro e w2 ⟨A1,n1,c1,xs,rfl,ho1,mg1,hb2⟩
    have hbz:Below W2.1.size W2 w2:=(Below.refl _ W2).drew.trans hb2;have z0:=(HN.out.here hbz).cells.1;have z1:=(HN.out.here hbz).cells.2;have HX1:=jq (ho1.sl Qc);have HM1:=jq mg1;have HL1:=jq (show n1<=K by rw[HX1.out.1];exact mg1.len HVA.out);have hb02:=hb0A.trans (hbz.mono hb0A.size);clear ho1 mg1 hb2)
  |(go_at_call 67;refine(ZdN na ny A1 A2 n1 n2 c1 c2 xs ys u v w2 HX1.out (HX2.out.here hbz) HM1.out HM2.out (by have:=HL1.out;have:=HK.out;omega) (by have:=HL2.out;have:=HK.out;omega)).mono ?_;rintro e w3 ⟨ng,A3,n3,c3,zs,r,rfl,ho3,mg3,hsv,hb3⟩
    have HX3:=jq (ho3.sl Qc);have HL3:=jq (show n3<=K+1 by rw[HX3.out.1];exact mg3.len (ZhZ hsv HVA.out HVB.out));have hcap:n3<=c3:=by obtain⟨h1,h2,_⟩:=ho3.facts;omega
    have HM3:=jq mg3;have HSV:=jq hsv;have hb03:=hb02.trans (hb3.mono hb02.size);have HTX:=jq (XD ng A3 n3 c3 zs w3 HX3.out HM3.out.gs hcap (by have:=HL3.out;have:=HK.out;omega) (HP.out.here hb03));rw[HM3.out.val,Ym,HSV.out,HS.out] at HTX;unfold S at HTX;clear ho3 mg3 hsv)
  |(go_at_call 69;refine HTX.out.mono ?_;rintro e w4 ⟨rfl,hb4⟩))
 all_goals
  go_wp2_with fail
  go_ret
  rw[HPO.out];exact⟨rfl,hb03.trans (hb4.mono hb03.size)⟩
end
end Go.Proofs.YtokjnjdbnabchaaGreatDoor
