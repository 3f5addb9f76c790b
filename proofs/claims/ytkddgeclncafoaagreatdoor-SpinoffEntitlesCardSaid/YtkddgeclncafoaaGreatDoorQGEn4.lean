/- N16, N17, N18, Gc, Gd, Fp1, Fp2. -/
import Derived.Test.YtkddgeclncafoaaGreatDoorQGEn2
import Derived.Test.YtkddgeclncafoaaGreatDoorQGEn3
import Derived.Test.YtkddgeclncafoaaGreatDoorQGEn41
import Derived.RangeFuncBound
import Derived.RangeFuncLeaves
import Derived.Shelf.Abstract
import Derived.Shelf.RegionOpen
import Derived.OwnWalkIn
import Derived.TacticsInMore
import Derived.LoopNIn
import Derived.LoopIn
import Derived.Stop.RegionWithIn
set_option maxRecDepth 100000
set_option maxHeartbeats 2000000
namespace Go.Proofs.YtkddgeclncafoaaGreatDoor
open Go.Lib renaming hid→jq
open Go.RowKit Go.Shelf
section
theorem Zcz(A A':Option Addr)(n m c c':Nat)(xs ys:List Nat)(u v:Nat)(w:World)(hx:Gr w w.1.size A n xs)(hy:Gr w w.1.size A' m ys)(mx:Mag xs u)(my:Mag ys v)(hn:n<=100000)(hm:m<=100000)(hc:n<=c)(hv:0<v):
 Calls Tryz.prog 107 #[.slice A n c,.slice A' m c'] w (YD (u/v) (u%v) w):=by
 rcases Nat.lt_or_ge u v with h|h
 ·exact ZfF A A' n m c c' xs ys u v w hx hy mx my (by omega) (by omega) hc h
 ·match m,hy,hm with
  |0,hy,_=>
   have:=my.nil_iff.1 (List.eq_nil_of_length_eq_zero hy.1.symm)
   omega
  |1,hy,_=>exact ZgZ A A' n c c' xs ys u v w hx hy mx my (by omega) h
  |m+2,hy,hm=>exact ZfG A A' n (m+2) c c' xs ys u v w hx hy mx my hn hm (by omega) h
theorem Zkd(a b:Bool)(u v:Nat):sv (a !=b) (u*v)=sv a u*sv b v:=by
 cases a<;>cases b<;>simp[sv,Int.neg_mul,Int.mul_neg]
theorem Yd(a b:List UInt8)(w:World)(hp:Pow w)(ha:a.length<=100000)(hb:b.length<=100000):Calls Tryz.prog 110 #[S a,S b] w (Qo (Qa (val a*val b)) w):=by
 have HRa:=jq (Xm a w (by omega));have HRb:=jq (fun W=>Xm b W (by omega));obtain⟨K,hK⟩:∃K:Nat,K=100000:=⟨_,rfl⟩
 have hva:=QB (show a.length<=K by omega);have hvb:=QB (show b.length<=K by omega);have HK:=jq hK;clear hK;have HS:=jq (show sv ((Qi a).2 !=(Qi b).2) (Ql (Qi a).1*Ql (Qi b).1)=val a*val b by rw[Zkd,Xi,Xi]);have HPO:=jq (show Qo (Qa (val a*val b)) w=fun e w'=>e=.returned (S (Qa (val a*val b)))/\Below w.1.size w w' from rfl);unfold XO at HRa HRb;have HVA:=jq hva;have HVB:=jq hvb;have HP:=jq hp;generalize Qo (Qa (val a*val b)) w=post at*;generalize (Qi a).2=na at*;generalize (Qi b).2=nb at*;generalize Ql (Qi a).1=u at*;generalize Ql (Qi b).1=v at*;have HUV:=jq (show u*v<1000000000^(K+K) by rw[Nat.pow_add];exact Nat.mul_lt_mul'' hva hvb);clear ha hb hva hvb hp;unfold S at*
 go_enter Tryz.func110,Tryz.ntmps110
 go_wp2_with fail
 refine HRa.out.mono ?_;rintro e w1 ⟨A1,n1,c1,xs,rfl,ho1,mg1,hb1⟩;have HO1:=jq ho1;have HM1:=jq mg1;clear ho1 mg1 HRa;go_wp2_with fail
 refine(HRb.out _).mono ?_;rintro e w2 ⟨A2,n2,c2,ys,rfl,ho2,mg2,hb2⟩;have HO2:=jq ho2;have HM2:=jq mg2;clear ho2 mg2 HRb;have HX1:=jq ((HO1.out.below hb2).sl Qu);have HX2:=jq (HO2.out.sl Qu);have HL1:=jq (show n1<=K by rw[HX1.out.1];exact HM1.out.len HVA.out);have HL2:=jq (show n2<=K by rw[HX2.out.1];exact HM2.out.len HVB.out);have hb02:=hb1.trans (hb2.mono hb1.size);go_wp2_with fail
 have hN1:NumB ((w2.alloc (.cells #[.bool na,.slice A1 n1 c1] 112)).alloc (.cells #[.bool nb,.slice A2 n2 c2] 112)) w2.1.size na A1 n1 c1:=(NumB.new w2 na A1 n1 c1).alloc _
 have hN2:NumB ((w2.alloc (.cells #[.bool na,.slice A1 n1 c1] 112)).alloc (.cells #[.bool nb,.slice A2 n2 c2] 112)) (w2.1.size+1) nb A2 n2 c2:=by
  have:=NumB.new (w2.alloc (.cells #[.bool na,.slice A1 n1 c1] 112)) nb A2 n2 c2
  simpa using this
 have hbA:Below w2.1.size w2 ((w2.alloc (.cells #[.bool na,.slice A1 n1 c1] 112)).alloc (.cells #[.bool nb,.slice A2 n2 c2] 112)):=((Below.refl _ _).alloc (Nat.le_refl _) _).alloc (by simp) _;have HX1':=jq (HX1.out.here hbA);have HX2':=jq (HX2.out.here hbA);have hb0A:=hb02.trans (hbA.mono hb02.size);obtain⟨x0,x1⟩:=hN1.cells
 obtain⟨y0,y1⟩:=hN2.cells
 have HN1:=jq hN1;have HN2:=jq hN2;clear hN1 hN2 hbA HX1 HX2 HO1 HO2;generalize (w2.alloc (.cells #[.bool na,.slice A1 n1 c1] 112)).alloc (.cells #[.bool nb,.slice A2 n2 c2] 112)=W at*;have HTM:=jq (Zbv A1 A2 n1 n2 c1 c2 xs ys u v W.drew HX1'.out.drew HX2'.out.drew HM1.out HM2.out (by have:=HL1.out;have:=HK.out;omega) (by have:=HL2.out;have:=HK.out;omega))
 go_region_held3 (fun w'=>w'.cell? ⟨w2.1.size,0,none⟩=some (.bool na)/\w'.cell? ⟨w2.1.size,1,none⟩=some (.slice A1 n1 c1)/\w'.cell? ⟨w2.1.size+1,0,none⟩=some (.bool nb)/\w'.cell? ⟨w2.1.size+1,1,none⟩=some (.slice A2 n2 c2))
  (first
    |exact⟨x0,x1,y0,y1⟩
    |exact⟨(HN1.out.here hbz).cells.1,(HN1.out.here hbz).cells.2,(HN2.out.here hbz).cells.1,(HN2.out.here hbz).cells.2⟩
    |exact⟨(HN1.out.here hbz4).cells.1,(HN1.out.here hbz4).cells.2,(HN2.out.here hbz4).cells.1,(HN2.out.here hbz4).cells.2⟩)
  (first
  |(go_at_call 164;refine HTM.out.mono ?_;rintro e w3 ⟨A3,n3,c3,zs,rfl,ho3,mg3,hb3⟩
    have hbz:Below W.1.size W w3:=(Below.refl _ W).drew.trans hb3;have HX3:=jq (ho3.sl Qu);have HL3:=jq (show n3<=K+K by rw[HX3.out.1];exact mg3.len HUV.out);have hcap:n3<=c3:=by obtain⟨h1,h2,_⟩:=ho3.facts;omega
    have hb03:=hb0A.trans (hbz.mono hb0A.size);have HTX:=jq (Vt (na !=nb) A3 n3 c3 zs w3 HX3.out mg3.gs hcap (by have:=HL3.out;have:=HK.out;omega) (HP.out.here hb03));rw[mg3.val,Yc,HS.out] at HTX;unfold S at HTX;clear ho3 mg3 hb3)
  |(go_at_call 91;refine HTX.out.mono ?_;rintro e w4 ⟨rfl,hb4⟩;have hbz4:=hbz.trans (hb4.mono hbz.size)))
 all_goals
  go_wp2_with fail
  rw[HPO.out];exact⟨rfl,hb03.trans (hb4.mono hb03.size)⟩
theorem Zh4(a:List UInt8)(w:World)(hp:Pow w)(ha:a.length<=100000):Calls Tryz.prog 121 #[S a] w (Qo (Qa (-val a)) w):=by
 have HRa:=jq (Xm a w (by omega));obtain⟨K,hK⟩:∃K:Nat,K=100000:=⟨_,rfl⟩
 have hva:=QB (show a.length<=K by omega);have HK:=jq hK;clear hK;have HS:=jq (show sv (!(Qi a).2) (Ql (Qi a).1)= -val a by rw[Zkc,Xi]);have HPO:=jq (show Qo (Qa (-val a)) w=fun e w'=>e=.returned (S (Qa (-val a)))/\Below w.1.size w w' from rfl);unfold XO at HRa;have HVA:=jq hva;have HP:=jq hp;generalize Qo (Qa (-val a)) w=post at*;generalize (Qi a).2=na at*;generalize Ql (Qi a).1=u at*;clear ha hva hp;unfold S at*
 go_enter Tryz.func121,Tryz.ntmps121
 go_wp2_with fail
 refine HRa.out.mono ?_;rintro e w1 ⟨A1,n1,c1,xs,rfl,ho1,mg1,hb1⟩;have hbA:=(Below.refl w1.1.size w1).alloc (Nat.le_refl _) (.cells #[.bool (!na),.slice A1 n1 c1] 112);have HX1:=jq ((ho1.below hbA).sl Qu);have HM1:=jq mg1;have HL1:=jq (show n1<=K by rw[HX1.out.1];exact mg1.len HVA.out);have hcap:n1<=c1:=by obtain⟨h1,h2,_⟩:=ho1.facts;omega
 have hb0A:=hb1.trans (hbA.mono hb1.size);have HTX:=jq (Vt (!na) A1 n1 c1 xs (w1.alloc (.cells #[.bool (!na),.slice A1 n1 c1] 112)) HX1.out HM1.out.gs hcap (by have:=HL1.out;have:=HK.out;omega) (HP.out.here hb0A));rw[HM1.out.val,Yc,HS.out] at HTX;unfold S at HTX;clear ho1 mg1;go_wp2_with fail
 refine HTX.out.mono ?_;rintro e w4 ⟨rfl,hb4⟩;go_wp2_with fail
 rw[HPO.out];exact⟨rfl,hb0A.trans (hb4.mono hb0A.size)⟩
end
section
theorem ZeD(a:List UInt8):(Qi a).2=true->val a<0:=by
 intro h;rw[Zca] at h;simpa using h
theorem Zke{x y:Int}{na nb:Bool}{u v:Nat}{r:Int}(hx:x=sv na u)(hy:y=sv nb v)(hxn:na=true->x<0)(hyn:nb=true->y<0)(h1:r<0↔u<v)(h2:0<r↔v<u):
 (na=true/\nb=false->Qt (x-y)= -1)/\(na=false/\nb=true->Qt (x-y)=1)/\(na=true/\nb=true->Qt (x-y)=max (-1) (min (-r) 1))/\(na=false/\nb=false->Qt (x-y)=max (-1) (min r 1)):=by
 unfold Qt
 cases na<;>cases nb<;>simp[sv] at hx hy hxn hyn ⊢ <;>(repeat' split)<;>omega
def Qn(s:Int)(w:World)(e:Ending)(w':World):Prop:=e=.returned (.int .i64 s)/\Below w.1.size w w'
theorem QR(a b:List UInt8)(w:World)(ha:a.length<=100000)(hb:b.length<=100000):Calls Tryz.prog 50 #[S a,S b] w (Qn (Qt (val a-val b)) w):=by
 have HRa:=jq (Xm a w (by omega));have HRb:=jq (fun W=>Xm b W (by omega));obtain⟨K,hK⟩:∃K:Nat,K=100000:=⟨_,rfl⟩
 have hva:=QB (show a.length<=K by omega);have hvb:=QB (show b.length<=K by omega);have HK:=jq hK;clear hK;have HS:=jq (fun(r:Int)=>Zke (r:=r) (Xi a).symm (Xi b).symm (ZeD a) (ZeD b));have HPO:=jq (show Qn (Qt (val a-val b)) w=fun e w'=>e=.returned (.int .i64 (Qt (val a-val b)))/\Below w.1.size w w' from rfl);unfold XO at HRa HRb;have HVA:=jq hva;have HVB:=jq hvb;generalize Qn (Qt (val a-val b)) w=post at*;generalize Qt (val a-val b)=res at*;generalize (Qi a).2=na at*;generalize (Qi b).2=nb at*;generalize Ql (Qi a).1=u at*;generalize Ql (Qi b).1=v at*;clear ha hb hva hvb;unfold S at*
 go_enter Tryz.func50,Tryz.ntmps50
 go_wp2_with fail
 refine HRa.out.mono ?_;rintro e w1 ⟨A1,n1,c1,xs,rfl,ho1,mg1,hb1⟩;have HO1:=jq ho1;have HM1:=jq mg1;clear ho1 mg1 HRa;go_wp2_with fail
 refine(HRb.out _).mono ?_;rintro e w2 ⟨A2,n2,c2,ys,rfl,ho2,mg2,hb2⟩;have HO2:=jq ho2;have HM2:=jq mg2;clear ho2 mg2 HRb;have HX1:=jq ((HO1.out.below hb2).sl Qu);have HX2:=jq (HO2.out.sl Qu);have HL1:=jq (show n1<=K by rw[HX1.out.1];exact HM1.out.len HVA.out);have HL2:=jq (show n2<=K by rw[HX2.out.1];exact HM2.out.len HVB.out);have hb02:=hb1.trans (hb2.mono hb1.size);have hN1:NumB ((w2.alloc (.cells #[.bool na,.slice A1 n1 c1] 112)).alloc (.cells #[.bool nb,.slice A2 n2 c2] 112)) w2.1.size na A1 n1 c1:=(NumB.new w2 na A1 n1 c1).alloc _
 have hN2:NumB ((w2.alloc (.cells #[.bool na,.slice A1 n1 c1] 112)).alloc (.cells #[.bool nb,.slice A2 n2 c2] 112)) (w2.1.size+1) nb A2 n2 c2:=by
  have:=NumB.new (w2.alloc (.cells #[.bool na,.slice A1 n1 c1] 112)) nb A2 n2 c2
  simpa using this
 have hbA:Below w2.1.size w2 ((w2.alloc (.cells #[.bool na,.slice A1 n1 c1] 112)).alloc (.cells #[.bool nb,.slice A2 n2 c2] 112)):=((Below.refl _ _).alloc (Nat.le_refl _) _).alloc (by simp) _;have HX1':=jq (HX1.out.here hbA);have HX2':=jq (HX2.out.here hbA);have hb0A:=hb02.trans (hbA.mono hb02.size);have HN1:=jq hN1;have HN2:=jq hN2;clear hN1 hN2 hbA HX1 HX2 HO1 HO2;go_wp2_with fail
 generalize (w2.alloc (.cells #[.bool na,.slice A1 n1 c1] 112)).alloc (.cells #[.bool nb,.slice A2 n2 c2] 112)=W at*
 (with_reducible refine(YO A1 A2 n1 n2 c1 c2 xs ys u v W HX1'.out HX2'.out HM1.out HM2.out (by have:=HL1.out;have:=HK.out;omega) (by have:=HL2.out;have:=HK.out;omega)).mono ?_)
 rintro e w3 ⟨r,rfl,hr1,hr2,hr3,hr4,hb3⟩;have x0:=(HN1.out.here hb3).cells.1;have y0:=(HN2.out.here hb3).cells.1;have HR:=jq (HS.out r hr1 hr2);have hb03:=hb0A.trans (hb3.mono hb0A.size);clear hr1 hr2 HS
 cases na<;>cases nb
 all_goals
  go_wp2_with fail
  rw[HPO.out];refine⟨?_,hb03⟩;simp at HR;rw[HR.out];rfl
theorem Zh5(na nb:Bool)(u v:Nat)(hv:0<v):
 (na=nb\/u%v=0->(sv na u).fdiv (sv nb v)=sv (na !=nb) (u/v)/\(sv na u).fmod (sv nb v)=sv nb (u%v))/\
 (na≠nb/\0<u%v->(sv na u).fdiv (sv nb v)=sv (na !=nb) (u/v+1)/\(sv na u).fmod (sv nb v)=sv nb (v-u%v)):=by
 have hdm:=Nat.div_add_mod u v;have hlt:=Nat.mod_lt u hv;generalize u/v=q at*;generalize u%v=r at*;have hu:(u:Int)=(v:Int)*q+r:=by rw[<-hdm];simp
 clear hdm
 have key:∀(a b x y:Int),b=v\/b= -(v:Int)->y+b*x=a->(0<=y/\y<b\/b<y/\y<=0)->a.fdiv b=x/\a.fmod b=y:=by
  intro a b x y hb he hr
  rcases hr with ⟨h1,h2⟩|⟨h1,h2⟩
  ·exact(Int.fdiv_fmod_unique (by omega)).2 ⟨he,h1,h2⟩
  ·exact(Int.fdiv_fmod_unique' (by omega)).2 ⟨he,h1,h2⟩
 constructor
 ·intro h;refine key _ _ _ _ (by cases nb<;>simp[sv]) ?_ ?_
  ·cases na<;>cases nb<;>simp[sv,Int.mul_neg,Int.neg_mul] at h ⊢ <;>(try subst h)<;>(try simp at hu)<;>omega
  ·cases nb<;>simp[sv]<;>omega
 ·rintro⟨h,h0⟩;refine key _ _ _ _ (by cases nb<;>simp[sv]) ?_ ?_
  ·cases na<;>cases nb<;>simp[sv,Int.mul_neg,Int.neg_mul,Int.mul_add] at h ⊢ <;>omega
  ·cases nb<;>simp[sv]<;>omega
def Xc(a b:Int)(w:World)(e:Ending)(w':World):Prop:=
 e=.returned (if b=0 then .tuple #[S [],S [],.int .i64 10] else .tuple #[S (Qa (a.fdiv b)),S (Qa (a.fmod b)),.int .i64 0])/\Below w.1.size w w'
theorem Zbw(a:List UInt8):Ql (Qi a).1=0↔val a=0:=by
 rw[<-Xi]
 cases(Qi a).2<;>simp[sv]
end
section
structure DvSt (w:World) (p:Nat) (na nb:Bool) (A1 A2:Option Addr) (n1 c1 n2 c2:Nat) (ys:List Nat) (wc:World):Prop where
 x:NumB wc p na A1 n1 c1
 y:NumB wc (p+1) nb A2 n2 c2
 g:Gr wc wc.1.size A2 n2 ys
 bl:Below w.1.size w wc
theorem DvSt.here{w:World}{p:Nat}{na nb:Bool}{A1 A2:Option Addr}{n1 c1 n2 c2:Nat}{ys:List Nat}{W W':World}(h:DvSt w p na nb A1 A2 n1 c1 n2 c2 ys W)(hb:Below W.1.size W W'):DvSt w p na nb A1 A2 n1 c1 n2 c2 ys W':=
 ⟨h.x.here hb,h.y.here hb,h.g.here hb,h.bl.trans (hb.mono h.bl.size)⟩
theorem Zao(a b:List UInt8)(w:World)(hp:Pow w)(ha:a.length<=100000)(hb:b.length<=100000):Calls Tryz.prog 63 #[S a,S b] w (Xc (val a) (val b) w):=by
 have HRa:=jq (Xm a w (by omega));have HRb:=jq (fun W=>Xm b W (by omega));obtain⟨K,hK⟩:∃K:Nat,K=100000:=⟨_,rfl⟩
 have hva:=QB (show a.length<=K by omega);have hvb:=QB (show b.length<=K by omega);have HK:=jq hK;clear hK;have HSA:=jq (Xi a);have HSB:=jq (Xi b);have HZ:=jq (Zbw b);have HPO:=jq (show Xc (val a) (val b) w=fun e w'=>e=.returned (if val b=0 then .tuple #[S [],S [],.int .i64 10] else .tuple #[S (Qa ((val a).fdiv (val b))),S (Qa ((val a).fmod (val b))),.int .i64 0])/\Below w.1.size w w' from rfl);unfold XO at HRa HRb;have HVA:=jq hva;have HVB:=jq hvb;have HP:=jq hp;generalize Xc (val a) (val b) w=post at*;generalize val a=x at*;generalize val b=y at*;generalize (Qi a).2=na at*;generalize (Qi b).2=nb at*;generalize Ql (Qi a).1=u at*;generalize Ql (Qi b).1=v at*;clear ha hb hva hvb hp;unfold S at*
 go_enter Tryz.func63,Tryz.ntmps63
 go_wp2_with fail
 refine HRa.out.mono ?_;rintro e w1 ⟨A1,n1,c1,xs,rfl,ho1,mg1,hb1⟩;have HO1:=jq ho1;have HM1:=jq mg1;clear ho1 mg1 HRa;go_wp2_with fail
 refine(HRb.out _).mono ?_;rintro e w2 ⟨A2,n2,c2,ys,rfl,ho2,mg2,hb2⟩;have HO2:=jq ho2;have HM2:=jq mg2;clear ho2 mg2 HRb;have HX1:=jq ((HO1.out.below hb2).sl Qu);have HX2:=jq (HO2.out.sl Qu);have HL1:=jq (show n1<=K by rw[HX1.out.1];exact HM1.out.len HVA.out);have HL2:=jq (show n2<=K by rw[HX2.out.1];exact HM2.out.len HVB.out);have hcap1:n1<=c1:=by obtain⟨h1,h2,_⟩:=HO1.out.facts;omega
 have hb02:=hb1.trans (hb2.mono hb1.size);have hN1:NumB ((w2.alloc (.cells #[.bool na,.slice A1 n1 c1] 112)).alloc (.cells #[.bool nb,.slice A2 n2 c2] 112)) w2.1.size na A1 n1 c1:=(NumB.new w2 na A1 n1 c1).alloc _
 have hN2:NumB ((w2.alloc (.cells #[.bool na,.slice A1 n1 c1] 112)).alloc (.cells #[.bool nb,.slice A2 n2 c2] 112)) (w2.1.size+1) nb A2 n2 c2:=by
  have:=NumB.new (w2.alloc (.cells #[.bool na,.slice A1 n1 c1] 112)) nb A2 n2 c2
  simpa using this
 have hbA:Below w2.1.size w2 ((w2.alloc (.cells #[.bool na,.slice A1 n1 c1] 112)).alloc (.cells #[.bool nb,.slice A2 n2 c2] 112)):=((Below.refl _ _).alloc (Nat.le_refl _) _).alloc (by simp) _;have HX1':=jq (HX1.out.here hbA);have HX2':=jq (HX2.out.here hbA);have hb0A:=hb02.trans (hbA.mono hb02.size);have HST:=jq (show DvSt w w2.1.size na nb A1 A2 n1 c1 n2 c2 ys _ from⟨hN1,hN2,HX2'.out,hb0A⟩);have HNZ:=jq (show n2=0↔v=0 by rw[HX2.out.1,<-HM2.out.nil_iff];exact⟨List.eq_nil_of_length_eq_zero,fun h=>by rw[h];rfl⟩);clear hN1 hN2 hbA HX1 HX2 HO1 HO2
 by_cases hy0:y=0
 ·have hn2:n2=0:=HNZ.out.2 (HZ.out.2 hy0);rw[if_pos hy0] at HPO;have hn2b:((n2:Int)==0)=true:=by simp[hn2]
  clear HST HX1' HX2' HNZ HSB hn2 hy0 HZ;go_wp2_with fail
  go_ret3
  rw[HPO.out];exact⟨rfl,hb0A⟩
 ·have hv0:0<v:=Nat.pos_of_ne_zero (fun h=>hy0 (HZ.out.1 h));have hn2:0<n2:=Nat.pos_of_ne_zero (fun h=>by have:=HNZ.out.1 h;omega);have hn2b:((n2:Int)==0)=false:=by simp;omega
  rw[if_neg hy0] at HPO;clear hy0 HNZ HZ;go_wp2_with fail
  generalize (w2.alloc (.cells #[.bool na,.slice A1 n1 c1] 112)).alloc (.cells #[.bool nb,.slice A2 n2 c2] 112)=W at*
  (with_reducible refine(Zcz A1 A2 n1 n2 c1 c2 xs ys u v W HX1'.out HX2'.out HM1.out HM2.out (by have:=HL1.out;have:=HK.out;omega) (by have:=HL2.out;have:=HK.out;omega) hcap1 hv0).mono ?_)
  rintro e w3 ⟨A3,n3,c3,qs,A4,n4,c4,rs,rfl,hg3,hc3,mg3,hg4,hc4,mg4,hb3⟩;have HS3:=jq (HST.out.here hb3);have HG3:=jq hg3;have HG4:=jq hg4;have HM3:=jq mg3;have HM4:=jq mg4;have HL3:=jq (show n3<=K by rw[hg3.1];exact mg3.len (Nat.lt_of_le_of_lt (Nat.div_le_self _ _) HVA.out));have HL4:=jq (show n4<=K by rw[hg4.1];exact mg4.len (Nat.lt_trans (Nat.mod_lt _ hv0) HVB.out));have HNZ4:=jq (show n4=0↔u%v=0 by rw[hg4.1,<-mg4.nil_iff];exact⟨List.eq_nil_of_length_eq_zero,fun h=>by rw[h];rfl⟩);have HFD:=jq (Zh5 na nb u v hv0);rw[HSA.out,HSB.out] at HFD;clear hg3 hg4 mg3 mg4 HST hn2b;have x0:=HS3.out.x.cells.1;have y0:=HS3.out.y.cells.1;have y1:=HS3.out.y.cells.2;obtain⟨bb,hbb⟩:∃bb:Bool,bb=((na !=nb)&&decide (0<n4)):=⟨_,rfl⟩
  have HBB:=jq hbb;clear hbb;go_upto_region 5 with (fail)
  go_cut [36] (fun s wc=>s=.bool bb/\wc=w3)
  case first=>
   cases na<;>cases nb
   all_goals
    go_wp2_with fail
    go_meet
    refine⟨by rw[HBB.out];rfl,rfl⟩
  case rest=>
  obtain⟨rfl,hwc⟩:=hcut
  obtain⟨w4,rfl⟩:∃W,W=wc:=⟨_,rfl⟩
  subst hwc;go_upto_if 36 with (fail)
  go_cut [9,10] (fun s t wc=>∃(A5 A6:Option Addr) (n5 c5 n6 c6:Nat) (qs' rs':List Nat) (Q R:Nat),s=.slice A5 n5 c5/\t=.slice A6 n6 c6/\Hid (Gr wc wc.1.size A5 n5 qs')/\Hid (Gr wc wc.1.size A6 n6 rs')/\n5<=c5/\n6<=c6/\Hid (n5<=K+1)/\Hid (n6<=K+1)/\Hid (Mag qs' Q)/\Hid (Mag rs' R)/\Hid (x.fdiv y=sv (na !=nb) Q)/\Hid (x.fmod y=sv nb R)/\Hid (DvSt w w2.1.size na nb A1 A2 n1 c1 n2 c2 ys wc))
  case first=>
   cases bb with
   |false=>
    have HEQ:=jq (HFD.out.1 (by
     have h1:=HBB.out
     by_cases h:na=nb
     ·exact .inl h
     ·refine .inr (HNZ4.out.1 ?_);have h2:(na !=nb)=true:=by simpa using h
      rw[h2] at h1;simp at h1;exact h1))
    go_wp2_with fail
    go_meet
    exact⟨A3,A4,n3,c3,n4,c4,qs,rs,u/v,u%v,rfl,rfl,HG3,HG4,hc3,hc4,by show _<=_;have:=HL3.out;omega,by show _<=_;have:=HL4.out;omega,HM3,HM4,HEQ.out.1,HEQ.out.2,HS3⟩
   |true=>
    have hne:na≠nb/\0<n4:=by have h1:=HBB.out;simp at h1;exact h1
    have hr0:0<u%v:=Nat.pos_of_ne_zero (fun h=>by have:=HNZ4.out.2 h;omega);have HEQ:=jq (HFD.out.2 ⟨hne.1,hr0⟩);clear hne;have hbP:Below w4.1.size w4 (w4.alloc (.cells #[.int .u64 1] 126)).drew:=((Below.refl _ _).alloc (Nat.le_refl _) _).drew
    have HSL:=jq (show Gr (w4.alloc (.cells #[.int .u64 1] 126)).drew (w4.alloc (.cells #[.int .u64 1] 126)).drew.1.size (some ⟨w4.1.size,0,none⟩) 1 [1] by
     have:=Sl.lit w4 #[.int .u64 1] 126 [1] rfl Qu
     simpa using this.drew)
    have HPL:=jq (ZfB A3 (some ⟨w4.1.size,0,none⟩) n3 1 c3 1 qs [1] (u/v) 1 (w4.alloc (.cells #[.int .u64 1] 126)).drew (HG3.out.here hbP) HSL.out HM3.out (Mag.one (by omega) (by omega)) (by have:=HL3.out;have:=HK.out;omega) (by omega));have HBP:=jq hbP;clear hbP HSL;go_upto_region 6 with (fail)
    go_region_held3 (fun w'=>w'.cell? ⟨w2.1.size+1,1,none⟩=some (.slice A2 n2 c2))
     (first
       |go_keep
       |exact(HS3.out.here hbz).y.cells.2
       |exact(HS3.out.here hbz2).y.cells.2)
     (first
       |(go_at_call 108;refine HPL.out.mono ?_;rintro e w5 ⟨A5,n5,c5,qs',rfl,ho5,mg5,hb5⟩
         have hbz:Below w4.1.size w4 w5:=HBP.out.trans (hb5.mono HBP.out.size);have HO5:=jq ho5;have HM5:=jq mg5;clear ho5 mg5)
       |(go_at_call 109;refine(ZdM A2 A4 n2 n4 c2 c4 ys rs v (u%v) _ (HS3.out.here hbz).g (HG4.out.here hbz) HM2.out HM4.out (by have:=HL2.out;have:=HK.out;omega) (Nat.le_of_lt (Nat.mod_lt _ hv0))).mono ?_;rintro e w6 ⟨A6,n6,c6,rs',rfl,ho6,mg6,hb6⟩
         have hbz2:Below w4.1.size w4 w6:=hbz.trans (hb6.mono hbz.size);have HO6:=jq ho6;have HM6:=jq mg6;clear ho6 mg6))
    all_goals
     go_wp2_with fail
     go_meet
     have h5:=HO5.out.below hb6;refine⟨A5,A6,n5,c5,n6,c6,qs',rs',u/v+1,v-u%v,rfl,rfl,h5.sl Qu,HO6.out.sl Qu,?_,?_,?_,?_,HM5,HM6,HEQ.out.1,HEQ.out.2,HS3.out.here hbz2⟩
     ·obtain⟨h1,h2,_⟩:=h5.facts;omega
     ·obtain⟨h1,h2,_⟩:=HO6.out.facts;omega
     ·show _<=_
      rw[h5.facts.1];refine HM5.out.len ?_;rw[Nat.pow_succ];have h1:=Nat.div_le_self u v;have h2:=HVA.out;omega
     ·show _<=_
      rw[HO6.out.facts.1];refine HM6.out.len ?_;rw[Nat.pow_succ];have h2:=HVB.out;omega
  case rest=>
  obtain⟨A5,A6,n5,c5,n6,c6,qs',rs',Q,R,rfl,rfl,HG5,HG6,hc5,hc6,HL5,HL6,HM5,HM6,HE1,HE2,HS5⟩:=hcut
  obtain⟨w5,rfl⟩:∃W,W=wc:=⟨_,rfl⟩
  clear x0 y0 y1 HS3 HG3 HG4;obtain⟨x0,y0⟩:w5.cell? ⟨w2.1.size,0,none⟩=some (.bool na)/\w5.cell? ⟨w2.1.size+1,0,none⟩=some (.bool nb):=⟨HS5.out.x.cells.1,HS5.out.y.cells.1⟩
  have HT1:=jq (Vt (na !=nb) A5 n5 c5 qs' w5.drew HG5.out.drew HM5.out.gs hc5 (by have:=HL5.out;have:=HK.out;omega) (HP.out.here HS5.out.bl.drew));rw[HM5.out.val,Yc,<-HE1.out,show(na !=nb)= !(na==nb) from rfl] at HT1;have HT2:=jq (fun W (hb:Below w5.1.size w5 W)=>Vt nb A6 n6 c6 rs' W (HG6.out.here hb) HM6.out.gs hc6 (by have:=HL6.out;have:=HK.out;omega) (HP.out.here (HS5.out.here hb).bl));rw[HM6.out.val,Yc,<-HE2.out] at HT2;unfold S at HT1 HT2;go_upto_region 7 with (fail)
  go_region_held3 (fun w'=>w'.cell? ⟨w2.1.size,0,none⟩=some (.bool na)/\w'.cell? ⟨w2.1.size+1,0,none⟩=some (.bool nb))
   (first
     |go_keep
     |exact⟨(HS5.out.here hbz).x.cells.1,(HS5.out.here hbz).y.cells.1⟩
     |exact⟨(HS5.out.here hbz2).x.cells.1,(HS5.out.here hbz2).y.cells.1⟩)
   (first
     |(go_at_call_of 91 (Value.agg #[.bool (!(na==nb)),.slice A5 n5 c5]);refine HT1.out.mono ?_;rintro e w6 ⟨rfl,hb6⟩
       have hbz:Below w5.1.size w5 w6:=(Below.refl _ w5).drew.trans hb6)
     |(go_at_call 91;refine(HT2.out _ hbz).mono ?_;rintro e w7 ⟨rfl,hb7⟩
       have hbz2:Below w5.1.size w5 w7:=hbz.trans (hb7.mono hbz.size)))
  all_goals
   go_wp2_with fail
   go_ret3
   rw[HPO.out];exact⟨rfl,HS5.out.bl.trans (hbz2.mono HS5.out.bl.size)⟩
end
section
attribute [local go_sem] Oper.semAt_some
theorem Gr.unique{W:World}{B B':Nat}{A:Option Addr}{n:Nat}{xs ys:List Nat}(h:Gr W B A n xs)(h':Gr W B' A n ys):xs=ys:=by
 apply List.ext_getElem?
 intro i
 by_cases hi:i<n
 ·obtain⟨b,off,x,hA,_,hx,hc⟩:=h.grp hi
  obtain⟨b',off',y,hA',_,hy,hc'⟩:=h'.grp hi
  rw[hA] at hA';injection hA' with e
  injection e with e1 e2;subst e1;subst e2
  rw[hc] at hc';injection hc' with e
  injection e with _ e;rw[hx,hy]
  congr 1
  omega
 ·rw[List.getElem?_eq_none (by rw[<-h.1];omega),List.getElem?_eq_none (by rw[<-h'.1];omega)]
noncomputable def Zkf(W:World)(p:Nat):Nat:=Classical.epsilon fun v=>∃A n c ys,Box W p 110 (.slice A n c)/\Gr W W.1.size A n ys/\Mag ys v
theorem ZfH{W:World}{p n c v:Nat}{A:Option Addr}{ys:List Nat}(hb:Box W p 110 (.slice A n c))(hg:Gr W W.1.size A n ys)(hm:Mag ys v):Zkf W p=v:=by
 have h:=Classical.epsilon_spec (p:=fun v=>∃A n c ys,Box W p 110 (.slice A n c)/\Gr W W.1.size A n ys/\Mag ys v) ⟨v,A,n,c,ys,hb,hg,hm⟩;obtain⟨A',n',c',ys',hb',hg',hm'⟩:=h
 unfold Box at hb hb';rw[hb] at hb';simp only[Option.some.injEq,Obj.cells.injEq,and_true,Array.mk.injEq,List.cons.injEq,Value.slice.injEq] at hb';obtain⟨rfl,rfl,rfl⟩:=hb'
 have:=hg.unique hg'
 subst this;unfold Zkf;rw[<-hm'.val,hm.val]
theorem Gr.kp2{W W':World}{p q n:Nat}{A:Option Addr}{xs:List Nat}(h:Gr W W.1.size A n xs)(hk:Kp2 p q W W')(hp:∀o x,W.cell? ⟨p,o,none⟩≠some (.int .u64 x))(hq:∀o x,W.cell? ⟨q,o,none⟩≠some (.int .u64 x)):Gr W' W'.1.size A n xs:=by
 refine Sl.more (B:=W.1.size) ⟨h.1,fun hn=> ?_⟩ hk.size;obtain⟨b,off,e,hb,hc⟩:=h.2 hn
 obtain⟨b',off',x0,e',_,_,hc0⟩:=h.grp (i:=0) hn
 rw[e] at e';injection e' with e'
 injection e' with e1 e2
 subst e1;subst e2
 refine⟨b,off,e,hb,fun i x hi j u hj=> ?_⟩;have h1:b≠p:=fun e=>hp _ _ (e▸hc0)
 have h2:b≠q:=fun e=>hq _ _ (e▸hc0)
 have:=hk.2 b hb h1 h2
 have hcell:W'.cell? ⟨b,off+i*1+j,none⟩=W.cell? ⟨b,off+i*1+j,none⟩:=World.cell?_of_block this;rw[hcell];exact hc i x hi j u hj
theorem Box.notU{W:World}{p:Nat}{t:TypeId}{A:Option Addr}{n c:Nat}(h:Box W p t (.slice A n c))(o:Nat)(x:Int):W.cell? ⟨p,o,none⟩≠some (.int .u64 x):=by
 intro h2;have:=cell_of_row W p o #[.slice A n c] t (0,0) h
 rw[this] at h2
 cases o with
 |zero=>simp at h2
 |succ o=>simp at h2
theorem Zbx{W:World}{l:Nat}{r:Loop}(h:W.heap[l]?=some (.loop r))(o:Nat)(x:Int):W.cell? ⟨l,o,none⟩≠some (.int .u64 x):=by
 intro h2;unfold World.cell? at h2
 simp[h] at h2
structure EuSt (G pm pn:Nat) (A A':Option Addr) (n c n' c':Nat) (xs ys:List Nat) (u v:Nat) (W:World):Prop where
 bm:Box W pm 110 (.slice A n c)
 bn:Box W pn 110 (.slice A' n' c')
 gm:Gr W W.1.size A n xs
 gn:Gr W W.1.size A' n' ys
 mm:Mag xs u
 mn:Mag ys v
 gcd:Nat.gcd u v=G
 lm:n<=100000
 ln:n'<=100000
 cm:n<=c
 cn:n'<=c'
def EuT(G:Nat)(s:Value)(W:World):Prop:=∃A n c zs,s=.slice A n c/\Gr W W.1.size A n zs/\Mag zs G/\n<=c/\n<=100000
theorem EuSt.kp2{G pm pn p q:Nat}{A A':Option Addr}{n c n' c':Nat}{xs ys:List Nat}{u v:Nat}{W W':World}(h:EuSt G pm pn A A' n c n' c' xs ys u v W)(hk:Kp2 p q W W')(hp:∀o x,W.cell? ⟨p,o,none⟩≠some (.int .u64 x))(hq:∀o x,W.cell? ⟨q,o,none⟩≠some (.int .u64 x))(h1:pm≠p)(h2:pm≠q)(h3:pn≠p)(h4:pn≠q):EuSt G pm pn A A' n c n' c' xs ys u v W':=
 ⟨hk.box h.bm h1 h2,hk.box h.bn h3 h4,h.gm.kp2 hk hp hq,h.gn.kp2 hk hp hq,h.mm,h.mn,h.gcd,h.lm,h.ln,h.cm,h.cn⟩
theorem EuSt.here{G pm pn:Nat}{A A':Option Addr}{n c n' c':Nat}{xs ys:List Nat}{u v:Nat}{W W':World}(h:EuSt G pm pn A A' n c n' c' xs ys u v W)(hb:Below W.1.size W W'):EuSt G pm pn A A' n c n' c' xs ys u v W':=
 ⟨h.bm.here hb,h.bn.here hb,h.gm.here hb,h.gn.here hb,h.mm,h.mn,h.gcd,h.lm,h.ln,h.cm,h.cn⟩
theorem ZiG(k:Nat)(hk:1<=k)(G l po pm pn:Nat)(J:Value->World->Prop)(h12:pm≠pn)(h1o:pm≠po)(h1l:pm≠l)(h2o:pn≠po)(h2l:pn≠l)
 (hJi:∀s A B,J s A->Kp2 pm pn A B->J s B) (hJl:∀s A,J s A->∃r,A.heap[l]?=some (.loop r)) (hJb:∀s A,J s A->∃t v,Box A po t v/\(∃B m c,v=.slice B m c))
 (hY:∀s B m c y W1,J s W1->YieldAt Fence.wide (k-1) Tryz.prog l #[.slice B m c,y] W1 fun e W'=>e=.returned (.bool true)/\J (.slice B m c) W'/\Kp2 po l W1 W')
 (s0:Value) (W:World) (h0:J s0 W) (A A':Option Addr) (n c n' c':Nat) (xs ys:List Nat) (u v:Nat) (hE:EuSt G pm pn A A' n c n' c' xs ys u v W):
 CallsIn Fence.wide k Tryz.prog 256 #[.func (.yield l) #[] #[],.pointer (some ⟨pm,0,none⟩),.pointer (some ⟨pn,0,none⟩)] W fun e W'=>(∃v,e=.returned v)/\∃s,J s W'/\EuT G s W':=by
 have HY:=jq hY;have HJI:=jq hJi;have HJL:=jq hJl;have HJB:=jq hJb;clear hY hJi hJl hJb;refine callsIn_of_wp Tryz.func256 rfl trivial ?_ rfl;simp only[Tryz.ntmps256,List.size_toArray,List.length_cons,List.length_nil,Nat.reduceAdd,Nat.reduceSub,Array.replicate_succ,Array.replicate_zero,List.push_toArray,List.append_toArray,List.nil_append,List.cons_append]
 gi_wp2
 gi_loopw [5] (fun _ wr=>∃(s:Value) (A A':Option Addr) (n c n' c':Nat) (xs ys:List Nat) (u v:Nat),Hid (J s wr)/\Hid (EuSt G pm pn A A' n c n' c' xs ys u v wr)) (fun _ wr=>Zkf wr pn)
 case atStart=>exact⟨s0,A,A',n,c,n',c',xs,ys,u,v,h0,hE⟩
 case round=>
  clear h0 hE;obtain⟨s,A,A',n,c,n',c',xs,ys,u,v,HJ,HE⟩:=hrel
  have c1:=HE.out.bm.cell;have c2:=HE.out.bn.cell;obtain⟨fn,tmps,assign,body,hy,hR⟩:=HY.out s A n c (.slice A' n' c') wr HJ.out
  have hR2:=hR.mono (R':=fun e W3=>e=.returned (.bool true)/\Hid (J (.slice A n c) W3/\EuSt G pm pn A A' n c n' c' xs ys u v W3)) (fun e W3 h=>by
   obtain⟨he,hj,hkp⟩:=h
   obtain⟨t,vv,hbx,B,m,cc,rfl⟩:=HJB.out _ _ HJ.out
   obtain⟨r,hl⟩:=HJL.out _ _ HJ.out
   exact⟨he,hj,HE.out.kp2 hkp (fun o x=>hbx.notU o x) (fun o x=>Zbx hl o x) h1o h1l h2o h2l⟩)
  have HR:=jq hR2;clear hR hR2;have HMA:=jq (ZfH HE.out.bn HE.out.gn HE.out.mn)
  gi_wp2_with fail
  refine HR.out.mono ?_;rintro e W3 ⟨rfl,HQ⟩;have HJ3:=jq HQ.out.1;have HE3:=jq HQ.out.2;clear HQ hy HR c1 c2 HJ HE;have c1:=HE3.out.bm.cell;have c2:=HE3.out.bn.cell
  by_cases hv:v=0
  ·have hn0:n'=0:=by rw[HE3.out.gn.1,HE3.out.mn.nil_iff.2 hv];rfl
   have hnd:decide (0<n')=false:=by simp[hn0]
   have HG:=jq (show u=G by have:=HE3.out.gcd;rw[hv,Nat.gcd_zero_right] at this;exact this);clear hn0
   gi_wp2_with fail
   go_end0
   exact⟨⟨_,rfl⟩,_,HJ3.out,A,n,c,xs,rfl,HE3.out.gm,by rw[<-HG.out];exact HE3.out.mm,HE3.out.cm,HE3.out.lm⟩
  ·have hn1:0<n':=by
    rcases Nat.eq_zero_or_pos n' with h|h
    ·exact absurd (HE3.out.mn.nil_iff.1 (List.eq_nil_of_length_eq_zero (by rw[<-HE3.out.gn.1];exact h))) hv
    ·exact h
   have hnd:decide (0<n')=true:=by simpa using hn1
   have HDV:=jq (Zcz A A' n n' c c' xs ys u v W3 HE3.out.gm HE3.out.gn HE3.out.mm HE3.out.mn HE3.out.lm HE3.out.ln HE3.out.cm (by omega));have f1:=HE3.out.bm.frozen;have f2:=HE3.out.bn.frozen
   gi_wp2_with fail
   refine⟨trivial,?_⟩;refine(callsIn_wide.2 HDV.out).mono ?_;rintro e w4 ⟨A1,n1,c1',qs,A2,n2,c2',rs,rfl,hg1,hc1,mg1,hg2,hc2,mg2,hb4⟩;have HE4:=jq (HE3.out.here hb4);have HG2:=jq hg2;have HM2:=jq mg2;have HJ4:=jq (HJI.out _ _ _ HJ3.out (Kp2.below (p:=pm) (q:=pn) hb4));clear hg1 mg1 hg2 mg2 c1 c2 f1 f2 hc1 HDV;have c1:=HE4.out.bm.cell;have c2:=HE4.out.bn.cell;have f1:=HE4.out.bm.frozen;have f2:=HE4.out.bn.frozen
   gi_wp2_with fail
   have hW:Kp2 pm pn w4 ((w4.setCell ⟨pm,0,none⟩ (.slice A' n' c')).setCell ⟨pn,0,none⟩ (.slice A2 n2 c2')):=((Kp2.refl pm pn w4).set1 0 _).set2 0 _
   have hE5:EuSt G pm pn A' A2 n' c' n2 c2' ys rs v (u%v) ((w4.setCell ⟨pm,0,none⟩ (.slice A' n' c')).setCell ⟨pn,0,none⟩ (.slice A2 n2 c2')):=by
    refine⟨(HE4.out.bm.set_ _).far (by exact h12) _,(HE4.out.bn.far (by exact fun e=>h12 e.symm) _).set_ _,HE4.out.gn.kp2 hW (fun o x=>HE4.out.bm.notU o x) (fun o x=>HE4.out.bn.notU o x),HG2.out.kp2 hW (fun o x=>HE4.out.bm.notU o x) (fun o x=>HE4.out.bn.notU o x),HE4.out.mn,HM2.out,?_,HE4.out.ln,?_,HE4.out.cn,hc2⟩
    ·rw[<-HE4.out.gcd,Nat.gcd_comm v,<-Nat.gcd_rec,Nat.gcd_comm]
    ·rw[HG2.out.1];refine Nat.le_trans (HM2.out.len (k:=n') ?_) HE4.out.ln;have h1:=Nat.mod_lt u (show 0<v by omega);have h2:=YW HE4.out.mn.gs;rw[HE4.out.mn.val,<-HE4.out.gn.1] at h2;omega
   go_roundw
   case rel=>exact⟨.slice A n c,A',A2,n',c',n2,c2',ys,rs,v,u%v,HJI.out _ _ _ HJ4.out hW,hE5⟩
   case measure=>
    rw[HMA.out,ZfH hE5.bn hE5.gn hE5.mn];exact Nat.mod_lt _ (by omega)
end
section
attribute [local go_sem] Oper.semAt_some
theorem ZiH(A A':Option Addr)(n c n' c':Nat)(w:World):Calls Tryz.prog 213 #[.slice A n c,.slice A' n' c'] w fun e w'=>e=.returned (.func (.func 256) #[] #[.pointer (some ⟨w.1.size,0,none⟩),.pointer (some ⟨w.1.size+1,0,none⟩)])/\(w.alloc (.cells #[.slice A n c] 110)).alloc (.cells #[.slice A' n' c'] 110)=w':=by
 go_enter Tryz.func213,Tryz.ntmps213
 go_wp2
 go_ret
 exact⟨rfl,rfl⟩
theorem Zh6(W:World)(b:Bool)(A:Option Addr)(n c:Nat):(Instr.field 112 (.agg #[.bool b,.slice A n c]) 1).run Tryz.prog W=.ok (.slice A n c) W:=by
 kernel_rfl
theorem Zh7(a b:List UInt8):Nat.gcd (Ql (Qi a).1) (Ql (Qi b).1)=Int.gcd (val a) (val b):=by
 unfold Int.gcd val
 split<;>split<;>simp
theorem Zmu(a b:List UInt8)(w:World)(hp:Pow w)(ha:a.length<=100000)(hb:b.length<=100000):Calls Tryz.prog 162 #[S a,S b] w (Qo (Qa (Int.gcd (val a) (val b):Nat)) w):=by
 have HRa:=jq (fun W=>Xm a W (by omega));have HRb:=jq (fun W=>Xm b W (by omega));obtain⟨K,hK⟩:∃K:Nat,K=100000:=⟨_,rfl⟩
 have hva:=QB (show a.length<=K by omega);have hvb:=QB (show b.length<=K by omega);have HK:=jq hK;clear hK;have HPO:=jq (show Qo (Qa (Int.gcd (val a) (val b):Nat)) w=fun e w'=>e=.returned (S (Qa (Int.gcd (val a) (val b):Nat)))/\Below w.1.size w w' from rfl);have HGV:=jq (Zh7 a b);unfold XO at HRa HRb;have HVA:=jq hva;have HVB:=jq hvb;have HP:=jq hp;generalize Qo (Qa (Int.gcd (val a) (val b):Nat)) w=post at*;generalize Int.gcd (val a) (val b)=G at*;generalize (Qi a).2=na at*;generalize (Qi b).2=nb at*;generalize Ql (Qi a).1=u at*;generalize Ql (Qi b).1=v at*;clear ha hb hva hvb hp;unfold S at*
 refine(callsIn_wide (n:=5)).1 ?_;refine callsIn_of_wp_marks Tryz.func162 rfl trivial ?_ rfl;simp only[Tryz.ntmps162,List.size_toArray,List.length_cons,List.length_nil,Nat.reduceAdd,Nat.reduceSub,Array.replicate_succ,Array.replicate_zero,List.push_toArray,List.append_toArray,List.nil_append,List.cons_append]
 gi_wp2_with fail
 refine⟨trivial,?_⟩;have bO0:=Box.new w 110 (.slice none 0 0);have hb0:Below w.1.size w (w.alloc (.cells #[.slice none 0 0] 110)):=(Below.refl _ _).alloc (Nat.le_refl _) _;generalize w.alloc _=W0 at*;refine(callsIn_wide.2 (HRa.out W0)).mono ?_;rintro e w1 ⟨A1,n1,c1,xs,rfl,ho1,mg1,hb1⟩;have HO1:=jq ho1;have HM1:=jq mg1;clear ho1 mg1 HRa;have hf1:=Zh6 w1 na A1 n1 c1
 gi_wp2_with fail
 refine⟨trivial,?_⟩;refine(callsIn_wide.2 (HRb.out w1)).mono ?_;rintro e w2 ⟨A2,n2,c2,ys,rfl,ho2,mg2,hb2⟩;have HO2:=jq ho2;have HM2:=jq mg2;clear ho2 mg2 HRb hf1;have hf2:=Zh6 w2 nb A2 n2 c2;have HX1:=jq ((HO1.out.below hb2).sl Qu);have HX2:=jq (HO2.out.sl Qu);have HL1:=jq (show n1<=K by rw[HX1.out.1];exact HM1.out.len HVA.out);have HL2:=jq (show n2<=K by rw[HX2.out.1];exact HM2.out.len HVB.out);have hcap1:n1<=c1:=by obtain⟨h1,h2,_⟩:=HO1.out.facts;omega
 have hcap2:n2<=c2:=by obtain⟨h1,h2,_⟩:=HO2.out.facts;omega
 have bO2:=(bO0.here hb1).here hb2;have hb02:=hb0.trans ((hb1.trans (hb2.mono hb1.size)).mono hb0.size);have hlt:w.1.size<w2.1.size:=bO2.lt
 gi_wp2_with fail
 refine⟨trivial,?_⟩;refine(callsIn_wide.2 (ZiH A1 A2 n1 c1 n2 c2 w2)).mono ?_;rintro e w3 ⟨rfl,rfl⟩;have hbA:Below w2.1.size w2 ((w2.alloc (.cells #[.slice A1 n1 c1] 110)).alloc (.cells #[.slice A2 n2 c2] 110)):=((Below.refl _ _).alloc (Nat.le_refl _) _).alloc (by simp) _;have bm:Box ((w2.alloc (.cells #[.slice A1 n1 c1] 110)).alloc (.cells #[.slice A2 n2 c2] 110)) w2.1.size 110 (.slice A1 n1 c1):=(Box.new w2 _ _).alloc _
 have bn:Box ((w2.alloc (.cells #[.slice A1 n1 c1] 110)).alloc (.cells #[.slice A2 n2 c2] 110)) (w2.1.size+1) 110 (.slice A2 n2 c2):=by
  have:=Box.new (w2.alloc (.cells #[.slice A1 n1 c1] 110)) 110 (.slice A2 n2 c2)
  simpa using this
 have bO3:=bO2.here hbA;have HE:=jq (show EuSt G w2.1.size (w2.1.size+1) A1 A2 n1 c1 n2 c2 xs ys u v _ from⟨bm,bn,HX1.out.here hbA,HX2.out.here hbA,HM1.out,HM2.out,HGV.out,by have:=HL1.out;have:=HK.out;omega,by have:=HL2.out;have:=HK.out;omega,hcap1,hcap2⟩);have hb03:=hb02.trans (hbA.mono hb02.size);have hsz3:w2.1.size+2=((w2.alloc (.cells #[.slice A1 n1 c1] 110)).alloc (.cells #[.slice A2 n2 c2] 110)).heap.size:=by simp
 clear bm bn hbA HX1 HX2 HO1 HO2 hb1 hb2 bO0 bO2 hb0 hb02
 gi_wp2_with fail
 generalize (w2.alloc (.cells #[.slice A1 n1 c1] 110)).alloc (.cells #[.slice A2 n2 c2] 110)=W3 at*;have HSZ:=jq hsz3;clear hsz3 hf2;have h3:=HSZ.out
 refine Zau (F:=Fence.wide) (n:=5) rfl (by omega) (gf:=256) (lb:=#[.pointer (some ⟨w2.1.size,0,none⟩),.pointer (some ⟨w2.1.size+1,0,none⟩)]) rfl trivial (enters_of Tryz.func256 (by kernel_rfl) rfl)
  w.1.size (by omega) (Kp2 w2.1.size (w2.1.size+1)) (EuT G) (fun A B h b hb1 hb2=>h.2 b hb2 (by omega) (by omega)) (.slice none 0 0) ?hseq rfl
  (fun s W=>Box W w.1.size 110 s/\(∃B m c,s=.slice B m c)/\Below w.1.size w W)
  (fun s A B ⟨h1,h2,h3⟩ hk=>⟨hk.box h1 (by omega) (by omega),h2,hk.under h3 (by have:=h3.size;omega) (by omega) (by omega)⟩)
  (fun s A ⟨h1,h2,_⟩=>⟨_,s,h1,h2⟩)
  (fun s A B l hl ⟨h1,h2,h3⟩ hk=>⟨hk.box h1 (by omega) (by omega),h2,hk.under h3 (by have:=h3.size;omega) (by omega) (by omega)⟩)
  ⟨bO3,⟨_,_,_,rfl⟩,hb03⟩
  (fun x y=>{tmps:=#[.string ⟨a.toArray⟩,.string ⟨b.toArray⟩,undef,undef,.string ⟨#[]⟩,.pointer (some ⟨w.1.size,0,none⟩),x,.string ⟨a.toArray⟩,.agg #[.bool na,.slice A1 n1 c1],.slice A1 n1 c1,.string ⟨b.toArray⟩,.agg #[.bool nb,.slice A2 n2 c2],.slice A2 n2 c2,.func (.func 256) #[] #[.pointer (some ⟨w2.1.size,0,none⟩),.pointer (some ⟨w2.1.size+1,0,none⟩)],x,y,undef,undef,undef,undef],defers:=[]})
  ?assign ?body ?done
 case hseq=>
  intro l J W hl hbW hJi hJl hJb hY h0;have hE:=HE.out.here hbW;exact ZiG 4 (by omega) G l w.1.size w2.1.size (w2.1.size+1) J (by omega) (by omega) (by omega) (by omega) (by omega) hJi hJl hJb hY (.slice none 0 0) W h0 A1 A2 n1 c1 n2 c2 xs ys u v hE
 case assign=>
  intro l x y W K hK
  gi_wp2
  exact hK
 case body=>
  rintro l s B m c y W hl ⟨hbx,hs,hbl⟩;have c0:=hbx.cell;have f0:=hbx.frozen
  gi_wp2
  exact⟨(Kp2.refl w.1.size w.1.size W).set1 0 _,hbx.set_ _,hbl.setCell (p:=⟨w.1.size,0,none⟩) (Nat.le_refl _) _⟩
 case done=>
  rintro D s W W0 hD ⟨hbx,hs,hbl⟩ ⟨A5,n5,c5,zs,rfl,hg5,mg5,hc5,hn5⟩ hk ⟨r,hr⟩ hK;have c0:=hbx.cell;have hg:=hg5.kp2 hk (fun o x=>Zbx hr o x) (fun o x=>Zbx hr o x);have HTX:=jq (Vt false A5 n5 c5 zs W hg mg5.gs hc5 (by omega) (HP.out.here hbl));rw[mg5.val,Yc,show sv false G=(G:Int) from rfl] at HTX;unfold S at HTX;clear hg hg5 mg5 h3
  gi_wp2_with fail
  refine⟨trivial,?_⟩;refine(callsIn_wide.2 HTX.out).mono ?_;rintro e w6 ⟨rfl,hb6⟩;have hK6:w6.heap[D]?=some (.deferred (some [])):=(hb6.block D (Array.getElem?_eq_some_iff.1 hK).1).trans hK;have hb06:=hbl.trans (hb6.mono hbl.size)
  gi_wp2
  refine⟨by simp,.inl ⟨_,_,rfl,run_takeDeferred hK6,?_⟩⟩;refine⟨_,results_tmp rfl _ _ _,?_⟩;rw[HPO.out];refine⟨rfl,?_⟩;exact hb06.grown (grownBy_putObj' w6 D (.deferred none)) (by have:=hb06.size;omega) (fun r e=>by cases e;have:=HSZ.out;omega)
end
section
def Qq(f:Fr):Value:=.agg #[S f.n,S f.d]
def FrB(w:World)(p:Nat)(f:Fr):Prop:=w.heap[p]?=some (.cells #[S f.n,S f.d] 26 (0,0))
section
variable {w w':World} {p:Nat} {f:Fr}
theorem FrB.lt(h:FrB w p f):p<w.1.size:=(Array.getElem?_eq_some_iff.1 h).1
theorem FrB.cells(h:FrB w p f):w.cell? ⟨p,0,none⟩=some (.string ⟨f.n.toArray⟩)/\w.cell? ⟨p,1,none⟩=some (.string ⟨f.d.toArray⟩):=
 ⟨cell_of_row w p 0 _ 26 (0,0) h,cell_of_row w p 1 _ 26 (0,0) h⟩
theorem FrB.frozen(h:FrB w p f)(j:Nat):w.frozen? ⟨p,j,none⟩=false:=by
 unfold FrB at h;simp[World.frozen?,h]
theorem FrB.below{N:Nat}(h:FrB w p f)(hb:Below N w w')(hg:p<N):FrB w' p f:=(hb.block p hg).trans h
theorem FrB.here(h:FrB w p f)(hb:Below w.1.size w w'):FrB w' p f:=h.below hb h.lt
theorem FrB.new(w:World)(f:Fr):FrB (w.alloc (.cells #[.string ⟨f.n.toArray⟩,.string ⟨f.d.toArray⟩] 26)) w.1.size f:=heap_alloc_new w _
theorem FrB.alloc(h:FrB w p f)(o:Obj):FrB (w.alloc o) p f:=(Below.heap_alloc w o p h.lt).trans h
theorem FrB.far(h:FrB w p f){a:Addr}(hp:p≠a.block)(u:Value):FrB (w.setCell a u) p f:=(Below.heap_setCell w a u p hp).trans h
end
def Qh(f:Fr)(w:World)(e:Ending)(w':World):Prop:=e=.returned (Qq f)/\Below w.1.size w w'
def QQ(x y:List UInt8)(w:World)(e:Ending)(w':World):Prop:=e=.returned (.tuple #[S x,S y])/\Below w.1.size w w'
theorem Va{a b:Int}(hb:b≠0){w w':World}{e:Ending}(h:Xc a b w e w'):e=.returned (.tuple #[.string ⟨(Qa (a.fdiv b)).toArray⟩,.string ⟨(Qa (a.fmod b)).toArray⟩,.int .i64 0])/\Below w.1.size w w':=by
 unfold Xc at h;rw[if_neg hb] at h;exact h
theorem Zh8(n:Int){d:List UInt8}(hd:val d≠0):(Qa (Int.gcd n (val d):Nat)).length<=d.length+1:=by
 refine Qg ?_;have h1:=JF d;have h2:Int.gcd n (val d)<=(val d).natAbs:=Nat.le_of_dvd (by omega) (Nat.gcd_dvd_right _ _);simp
 omega
theorem ZbX(n d:List UInt8)(w:World)(hp:Pow w)(hn:n.length<=50000)(hd:d.length<=50000)(hd0:val d≠0):
 Calls Tryz.prog 106 #[S n,S d] w (QQ (Qa (Rat.divInt (val n) (val d)).num) (Qa (Rat.divInt (val n) (val d)).den) w):=by
 have HCM:=jq (QR d [] w (by omega) (by simp));rw[show val ([]:List UInt8)=0 from Xr,Int.sub_zero] at HCM;have HPO:=jq (show QQ (Qa (Rat.divInt (val n) (val d)).num) (Qa (Rat.divInt (val n) (val d)).den) w=fun e w'=>e=.returned (.tuple #[S (Qa (Rat.divInt (val n) (val d)).num),S (Qa (Rat.divInt (val n) (val d)).den)])/\Below w.1.size w w' from rfl);have HN:=jq hn;have HD:=jq hd;have HP:=jq hp;have HNEG:=jq (Rat.neg_divInt_neg (val n) (val d));generalize QQ (Qa (Rat.divInt (val n) (val d)).num) (Qa (Rat.divInt (val n) (val d)).den) w=post at*;generalize hq:Rat.divInt (val n) (val d)=q at*;have HQ:=jq hq;clear hn hd hp hq;unfold S at*
 go_enter Tryz.func106,Tryz.ntmps106
 go_wp2_with fail
 refine HCM.out.mono ?_;rintro e w1 ⟨rfl,hb1⟩;go_upto_if 9 with (fail)
 go_cut [0,1] (fun s t wc=>∃n1 d1:List UInt8,s=.string ⟨n1.toArray⟩/\t=.string ⟨d1.toArray⟩/\Hid (0<val d1)/\Hid (Rat.divInt (val n1) (val d1)=q)/\Hid (n1.length<=50001)/\Hid (d1.length<=50001)/\Below w.1.size w wc)
 case first=>
  by_cases hneg:val d<0
  ·have hs:Qt (val d)= -1:=by unfold Qt;rw[if_pos hneg]
   have HNA:=jq (Zh4 n w1 (HP.out.here hb1) (by have:=HN.out;omega));have HND:=jq (fun W (hb:Below w1.1.size w1 W)=>Zh4 d W ((HP.out.here hb1).here hb) (by have:=HD.out;omega));unfold S at HNA HND;rw[hs];go_wp2_with fail
   refine HNA.out.mono ?_;rintro e w2 ⟨rfl,hb2⟩;go_wp2_with fail
   refine(HND.out w2 hb2).mono ?_;rintro e w3 ⟨rfl,hb3⟩;have hb13:=hb1.trans ((hb2.trans (hb3.mono hb2.size)).mono hb1.size);go_wp2_with fail
   go_meet
   refine⟨Qa (-val n),Qa (-val d),rfl,rfl,?_,?_,?_,?_,hb13⟩
   ·show _<_;rw[Qc];omega
   ·show _=_;rw[Qc,Qc,HNEG.out]
   ·show _<=_;have:=HN.out;have:=Qg (n:= -val n) (L:=n.length) (by have:=JF n;omega);omega
   ·show _<=_;have:=HD.out;have:=Qg (n:= -val d) (L:=d.length) (by have:=JF d;omega);omega
  ·have hs:Qt (val d)=1:=by unfold Qt;rw[if_neg hneg,if_pos (by omega)]
   rw[hs];go_wp2_with fail
   go_meet
   exact⟨n,d,rfl,rfl,by show _<_;omega,HQ,by show _<=_;have:=HN.out;omega,by show _<=_;have:=HD.out;omega,hb1⟩
 case rest=>
 clear HNEG HCM HQ HN HD hb1;obtain⟨n1,d1,rfl,rfl,H0,HQ,HN,HD,hb1⟩:=hcut
 obtain⟨w2,rfl⟩:∃W,W=wc:=⟨_,rfl⟩
 have HGC:=jq (Zmu n1 d1 w2 (HP.out.here hb1) (by have:=HN.out;omega) (by have:=HD.out;omega));have HGL:=jq (Zh8 (val n1) (d:=d1) (by have:=H0.out;omega));have HGP:=jq (ZhR (val n1) (val d1) (by have:=H0.out;omega));have HR1:=jq (ZhP (val n1) (val d1) H0.out);have HR2:=jq (ZhQ (val n1) (val d1) H0.out);rw[HQ.out] at HR1 HR2;generalize Int.gcd (val n1) (val d1)=g at*;have HV1:=jq (fun W (hb:Below w2.1.size w2 W)=>Zao n1 (Qa (g:Int)) W ((HP.out.here hb1).here hb) (by have:=HN.out;omega) (by have:=HGL.out;have:=HD.out;omega));have HV2:=jq (fun W (hb:Below w2.1.size w2 W)=>Zao d1 (Qa (g:Int)) W ((HP.out.here hb1).here hb) (by have:=HD.out;omega) (by have:=HGL.out;have:=HD.out;omega));rw[Qc] at HV1 HV2;unfold S at HGC HV1 HV2;go_wp2_with fail
 refine HGC.out.mono ?_;rintro e w3 ⟨rfl,hb3⟩;go_wp2_with fail
 refine(HV1.out w3 hb3).mono ?_;intro e w4 h4;obtain⟨rfl,hb4⟩:=Va (by have:=HGP.out;omega) h4
 have hb34:=hb3.trans (hb4.mono hb3.size);clear h4;rw[HR1.out];go_wp2_with fail
 refine(HV2.out w4 hb34).mono ?_;intro e w5 h5;obtain⟨rfl,hb5⟩:=Va (by have:=HGP.out;omega) h5
 have hb35:=hb34.trans (hb5.mono hb34.size);clear h5;rw[HR2.out];go_wp2_with fail
 rw[HPO.out];exact⟨rfl,hb1.trans (hb35.mono hb1.size)⟩
end
section
theorem Za4:Qa 1=[49]:=by
 rw[show(1:Int)=((1:Nat):Int) from rfl,VT];unfold QS;rw[if_neg (by omega),Lib.decDigits,dif_pos (by omega)];decide
theorem XS:val [49]=1:=by rw[<-Za4,Qc]
theorem ZcA(n d:List UInt8)(w:World)(hp:Pow w)(hn:n.length<=50000)(hd:d.length<=50000)(hd0:val d≠0):
 Calls Tryz.prog 67 #[S n,S d] w (Qh (Qd (Rat.divInt (val n) (val d))) w):=by
 have hbA:Below w.1.size w (w.alloc (.cells #[.string ⟨#[]⟩,.string ⟨#[]⟩] 26)):=(Below.refl _ _).alloc (Nat.le_refl _) _;have HRD:=jq (ZbX n d (w.alloc (.cells #[.string ⟨#[]⟩,.string ⟨#[]⟩] 26)) (hp.here hbA) hn hd hd0);have HPO:=jq (show Qh (Qd (Rat.divInt (val n) (val d))) w=fun e w'=>e=.returned (Qq (Qd (Rat.divInt (val n) (val d))))/\Below w.1.size w w' from rfl);have HB:=jq (show FrB (w.alloc (.cells #[.string ⟨#[]⟩,.string ⟨#[]⟩] 26)) w.1.size Fr.zero from FrB.new w Fr.zero);have HBA:=jq hbA;generalize Qh (Qd (Rat.divInt (val n) (val d))) w=post at*;generalize Rat.divInt (val n) (val d)=q at*;clear hn hd hp hd0 hbA;unfold S at*
 go_enter Tryz.func67,Tryz.ntmps67
 go_wp2_with fail
 generalize w.alloc _=W at*;refine HRD.out.mono ?_;rintro e w1 ⟨rfl,hb1⟩;unfold S;have HB1:=jq (HB.out.here hb1);obtain⟨c0,c1⟩:=HB1.out.cells
 have f0:=HB1.out.frozen 0;have f1:=HB1.out.frozen 1;have hb01:=HBA.out.trans (hb1.mono HBA.out.size)
 by_cases h1:q.den=1
 ·have HF:=jq (show Qq (Qd q)=.agg #[.string ⟨(Qa q.num).toArray⟩,.string ⟨#[]⟩] by unfold Qq Qd;simp only[if_pos h1];rfl);rw[show Qa (q.den:Int)=[49] by rw[h1];exact Za4];clear h1;go_wp2_with fail
  refine bodyPost_ret (v:=.agg #[.string ⟨(Qa q.num).toArray⟩,.string ⟨#[]⟩]) (by simp[results,Tryz.results67,go_sem,c0,c1]) rfl ?_;rw[HPO.out,HF.out];exact⟨rfl,(hb01.setCell (p:=⟨w.1.size,0,none⟩) (Nat.le_refl _) _).setCell (p:=⟨w.1.size,1,none⟩) (Nat.le_refl _) _⟩
 ·have HF:=jq (show Qq (Qd q)=.agg #[.string ⟨(Qa q.num).toArray⟩,.string ⟨(Qa q.den).toArray⟩] by unfold Qq Qd;simp only[if_neg h1];rfl)
  have hne:(Qa (q.den:Int)==[49])=false:=by
   rw[Bool.eq_false_iff];intro h;have h:=eq_of_beq h;exact h1 (by rw[<-Za4] at h;have:=ZjY h;omega)
  clear h1;generalize Qa (q.den:Int)=t at*;go_wp2_with fail
  refine bodyPost_ret (v:=.agg #[.string ⟨(Qa q.num).toArray⟩,.string ⟨t.toArray⟩]) (by simp[results,Tryz.results67,go_sem,c0,c1]) rfl ?_;rw[HPO.out,HF.out];exact⟨rfl,(hb01.setCell (p:=⟨w.1.size,0,none⟩) (Nat.le_refl _) _).setCell (p:=⟨w.1.size,1,none⟩) (Nat.le_refl _) _⟩
def Fr.dt(f:Fr):List UInt8:=if val f.d=0 then[49] else f.d
theorem Fr.val_dt(f:Fr):val f.dt=f.dv:=by
 unfold Fr.dt Fr.dv
 split
 ·exact XS
 ·rfl
theorem Fr.dt_len{f:Fr}{L:Nat}(h:f.d.length<=L)(hL:1<=L):f.dt.length<=L:=by
 unfold Fr.dt
 split
 ·exact hL
 ·exact h
theorem Ve(f:Fr)(w:World)(hd:f.d.length<=100000):Calls Tryz.prog 85 #[Qq f] w (QQ f.n f.dt w):=by
 have hbA:Below w.1.size w (w.alloc (.cells #[.string ⟨f.n.toArray⟩,.string ⟨f.d.toArray⟩] 26)):=(Below.refl _ _).alloc (Nat.le_refl _) _;have HCM:=jq (QR f.d [] (w.alloc (.cells #[.string ⟨f.n.toArray⟩,.string ⟨f.d.toArray⟩] 26)) hd (by simp));rw[show val ([]:List UInt8)=0 from Xr,Int.sub_zero] at HCM;have HPO:=jq (show QQ f.n f.dt w=fun e w'=>e=.returned (.tuple #[S f.n,S f.dt])/\Below w.1.size w w' from rfl);have HB:=jq (FrB.new w f);have HBA:=jq hbA;generalize QQ f.n f.dt w=post at*;obtain⟨c0,c1⟩:=HB.out.cells
 clear hbA hd;unfold S Qq at*
 unfold S;go_enter Tryz.func85,Tryz.ntmps85
 go_wp2_with fail
 generalize w.alloc _=W at*;refine HCM.out.mono ?_;rintro e w1 ⟨rfl,hb1⟩;have HB1:=jq (HB.out.here hb1);clear c0 c1;obtain⟨c0,c1⟩:=HB1.out.cells
 have hb01:=HBA.out.trans (hb1.mono HBA.out.size)
 by_cases h0:val f.d=0
 ·have hs:(Qt (val f.d)==0)=true:=by rw[h0];rfl
  rw[show f.dt=[49] by unfold Fr.dt;rw[if_pos h0]] at HPO;clear h0;go_wp2_with fail
  rw[HPO.out];exact⟨rfl,hb01⟩
 ·have hs:(Qt (val f.d)==0)=false:=by unfold Qt;(repeat' split)<;>simp<;>omega
  rw[show f.dt=f.d by unfold Fr.dt;rw[if_neg h0]] at HPO;clear h0;go_wp2_with fail
  go_quiet (fail)
  go_wp2_with fail
  rw[HPO.out];exact⟨rfl,bdN hb01 _⟩
end
end Go.Proofs.YtkddgeclncafoaaGreatDoor
