/- N16, N17, N18. -/
import Derived.Test.YtokjnjdbnabchaaGreatDoorQGEp5
import Derived.Test.YtokjnjdbnabchaaGreatDoorQGEp6
set_option maxRecDepth 20000
set_option maxHeartbeats 2000000
namespace Go.Proofs.YtokjnjdbnabchaaGreatDoor
open Go.Lib renaming hid→jq
open Go.RowKit Go.Shelf
section
theorem JQ(A A':Option Addr)(n m c c':Nat)(xs ys:List Nat)(u v:Nat)(w:World)(hx:Gr w w.1.size A n xs)(hy:Gr w w.1.size A' m ys)(mx:Mag xs u)(my:Mag ys v)(hn:n<=100000)(hm:m<=100000)(hc:n<=c)(hv:0<v):
 Calls Tryz.prog 199 #[.slice A n c,.slice A' m c'] w (Xq (u/v) (u%v) w):=by
 rcases Nat.lt_or_ge u v with h|h
 ·exact Zck A A' n m c c' xs ys u v w hx hy mx my (by omega) (by omega) hc h
 ·match m,hy,hm with
  |0,hy,_=>
   have:=my.nil_iff.1 (List.eq_nil_of_length_eq_zero hy.1.symm)
   omega
  |1,hy,_=>exact Zde A A' n c c' xs ys u v w hx hy mx my (by omega) h
  |m+2,hy,hm=>exact Zcl A A' n (m+2) c c' xs ys u v w hx hy mx my hn hm (by omega) h
theorem Zik(a b:Bool)(u v:Nat):sv (a !=b) (u*v)=sv a u*sv b v:=by
 cases a<;>cases b<;>simp[sv,Int.neg_mul,Int.mul_neg]
theorem Yn(a b:List UInt8)(w:World)(hp:Pow w)(ha:a.length<=100000)(hb:b.length<=100000):Calls Tryz.prog 98 #[S a,S b] w (QH (Qb (val a*val b)) w):=by
 have HRa:=jq (QF a w (by omega));have HRb:=jq (fun W=>QF b W (by omega));obtain⟨K,hK⟩:∃K:Nat,K=100000:=⟨_,rfl⟩
 have hva:=Qr (show a.length<=K by omega);have hvb:=Qr (show b.length<=K by omega);have HK:=jq hK;clear hK;have HS:=jq (show sv ((Qf a).2 !=(Qf b).2) (Qg (Qf a).1*Qg (Qf b).1)=val a*val b by rw[Zik,Xw,Xw]);have HPO:=jq (show QH (Qb (val a*val b)) w=fun e w'=>e=.returned (S (Qb (val a*val b)))/\Below w.1.size w w' from rfl);unfold QW at HRa HRb;have HVA:=jq hva;have HVB:=jq hvb;have HP:=jq hp;generalize QH (Qb (val a*val b)) w=post at*;generalize (Qf a).2=na at*;generalize (Qf b).2=nb at*;generalize Qg (Qf a).1=u at*;generalize Qg (Qf b).1=v at*;have HUV:=jq (show u*v<1000000000^(K+K) by rw[Nat.pow_add];exact Nat.mul_lt_mul'' hva hvb);clear ha hb hva hvb hp;unfold S at*
 go_enter Tryz.func98,Tryz.ntmps98
 go_wp2_with fail
 refine HRa.out.mono ?_;rintro e w1 ⟨A1,n1,c1,xs,rfl,ho1,mg1,hb1⟩;have HO1:=jq ho1;have HM1:=jq mg1;clear ho1 mg1 HRa;go_wp2_with fail
 refine(HRb.out _).mono ?_;rintro e w2 ⟨A2,n2,c2,ys,rfl,ho2,mg2,hb2⟩;have HO2:=jq ho2;have HM2:=jq mg2;clear ho2 mg2 HRb;have HX1:=jq ((HO1.out.below hb2).sl Qc);have HX2:=jq (HO2.out.sl Qc);have HL1:=jq (show n1<=K by rw[HX1.out.1];exact HM1.out.len HVA.out);have HL2:=jq (show n2<=K by rw[HX2.out.1];exact HM2.out.len HVB.out);have hb02:=hb1.trans (hb2.mono hb1.size);go_wp2_with fail
 have hN1:NumB ((w2.alloc (.cells #[.bool na,.slice A1 n1 c1] 106)).alloc (.cells #[.bool nb,.slice A2 n2 c2] 106)) w2.1.size na A1 n1 c1:=(NumB.new w2 na A1 n1 c1).alloc _
 have hN2:NumB ((w2.alloc (.cells #[.bool na,.slice A1 n1 c1] 106)).alloc (.cells #[.bool nb,.slice A2 n2 c2] 106)) (w2.1.size+1) nb A2 n2 c2:=by
  have:=NumB.new (w2.alloc (.cells #[.bool na,.slice A1 n1 c1] 106)) nb A2 n2 c2
  simpa using this
 have hbA:Below w2.1.size w2 ((w2.alloc (.cells #[.bool na,.slice A1 n1 c1] 106)).alloc (.cells #[.bool nb,.slice A2 n2 c2] 106)):=((Below.refl _ _).alloc (Nat.le_refl _) _).alloc (by simp) _;have HX1':=jq (HX1.out.here hbA);have HX2':=jq (HX2.out.here hbA);have hb0A:=hb02.trans (hbA.mono hb02.size);obtain⟨x0,x1⟩:=hN1.cells
 obtain⟨y0,y1⟩:=hN2.cells
 have HN1:=jq hN1;have HN2:=jq hN2;clear hN1 hN2 hbA HX1 HX2 HO1 HO2;generalize (w2.alloc (.cells #[.bool na,.slice A1 n1 c1] 106)).alloc (.cells #[.bool nb,.slice A2 n2 c2] 106)=W at*;have HTM:=jq (VP A1 A2 n1 n2 c1 c2 xs ys u v W.drew HX1'.out.drew HX2'.out.drew HM1.out HM2.out (by have:=HL1.out;have:=HK.out;omega) (by have:=HL2.out;have:=HK.out;omega))
 go_region_held3 (fun w'=>w'.cell? ⟨w2.1.size,0,none⟩=some (.bool na)/\w'.cell? ⟨w2.1.size,1,none⟩=some (.slice A1 n1 c1)/\w'.cell? ⟨w2.1.size+1,0,none⟩=some (.bool nb)/\w'.cell? ⟨w2.1.size+1,1,none⟩=some (.slice A2 n2 c2))
  (first
    |exact⟨x0,x1,y0,y1⟩
    |exact⟨(HN1.out.here hbz).cells.1,(HN1.out.here hbz).cells.2,(HN2.out.here hbz).cells.1,(HN2.out.here hbz).cells.2⟩
    |exact⟨(HN1.out.here hbz4).cells.1,(HN1.out.here hbz4).cells.2,(HN2.out.here hbz4).cells.1,(HN2.out.here hbz4).cells.2⟩)
  (first
  |(go_at_call 145;refine HTM.out.mono ?_;rintro e w3 ⟨A3,n3,c3,zs,rfl,ho3,mg3,hb3⟩
    have hbz:Below W.1.size W w3:=(Below.refl _ W).drew.trans hb3;have HX3:=jq (ho3.sl Qc);have HL3:=jq (show n3<=K+K by rw[HX3.out.1];exact mg3.len HUV.out);have hcap:n3<=c3:=by obtain⟨h1,h2,_⟩:=ho3.facts;omega
    have hb03:=hb0A.trans (hbz.mono hb0A.size);have HTX:=jq (XD (na !=nb) A3 n3 c3 zs w3 HX3.out mg3.gs hcap (by have:=HL3.out;have:=HK.out;omega) (HP.out.here hb03));rw[mg3.val,Ym,HS.out] at HTX;unfold S at HTX;clear ho3 mg3 hb3)
  |(go_at_call 69;refine HTX.out.mono ?_;rintro e w4 ⟨rfl,hb4⟩;have hbz4:=hbz.trans (hb4.mono hbz.size)))
 all_goals
  go_wp2_with fail
  rw[HPO.out];exact⟨rfl,hb03.trans (hb4.mono hb03.size)⟩
theorem ZdO(a:List UInt8)(w:World)(hp:Pow w)(ha:a.length<=100000):Calls Tryz.prog 32 #[S a] w (QH (Qb (-val a)) w):=by
 have HRa:=jq (QF a w (by omega));obtain⟨K,hK⟩:∃K:Nat,K=100000:=⟨_,rfl⟩
 have hva:=Qr (show a.length<=K by omega);have HK:=jq hK;clear hK;have HS:=jq (show sv (!(Qf a).2) (Qg (Qf a).1)= -val a by rw[Zfm,Xw]);have HPO:=jq (show QH (Qb (-val a)) w=fun e w'=>e=.returned (S (Qb (-val a)))/\Below w.1.size w w' from rfl);unfold QW at HRa;have HVA:=jq hva;have HP:=jq hp;generalize QH (Qb (-val a)) w=post at*;generalize (Qf a).2=na at*;generalize Qg (Qf a).1=u at*;clear ha hva hp;unfold S at*
 go_enter Tryz.func32,Tryz.ntmps32
 go_wp2_with fail
 refine HRa.out.mono ?_;rintro e w1 ⟨A1,n1,c1,xs,rfl,ho1,mg1,hb1⟩;have hbA:=(Below.refl w1.1.size w1).alloc (Nat.le_refl _) (.cells #[.bool (!na),.slice A1 n1 c1] 106);have HX1:=jq ((ho1.below hbA).sl Qc);have HM1:=jq mg1;have HL1:=jq (show n1<=K by rw[HX1.out.1];exact mg1.len HVA.out);have hcap:n1<=c1:=by obtain⟨h1,h2,_⟩:=ho1.facts;omega
 have hb0A:=hb1.trans (hbA.mono hb1.size);have HTX:=jq (XD (!na) A1 n1 c1 xs (w1.alloc (.cells #[.bool (!na),.slice A1 n1 c1] 106)) HX1.out HM1.out.gs hcap (by have:=HL1.out;have:=HK.out;omega) (HP.out.here hb0A));rw[HM1.out.val,Ym,HS.out] at HTX;unfold S at HTX;clear ho1 mg1;go_wp2_with fail
 refine HTX.out.mono ?_;rintro e w4 ⟨rfl,hb4⟩;go_wp2_with fail
 rw[HPO.out];exact⟨rfl,hb0A.trans (hb4.mono hb0A.size)⟩
end
section
theorem Zfn(a:List UInt8):(Qf a).2=true->val a<0:=by
 intro h;rw[ZdH] at h;simpa using h
theorem Zil{x y:Int}{na nb:Bool}{u v:Nat}{r:Int}(hx:x=sv na u)(hy:y=sv nb v)(hxn:na=true->x<0)(hyn:nb=true->y<0)(h1:r<0↔u<v)(h2:0<r↔v<u):
 (na=true/\nb=false->QQ (x-y)= -1)/\(na=false/\nb=true->QQ (x-y)=1)/\(na=true/\nb=true->QQ (x-y)=max (-1) (min (-r) 1))/\(na=false/\nb=false->QQ (x-y)=max (-1) (min r 1)):=by
 unfold QQ
 cases na<;>cases nb<;>simp[sv] at hx hy hxn hyn ⊢ <;>(repeat' split)<;>omega
def Xf(s:Int)(w:World)(e:Ending)(w':World):Prop:=e=.returned (.int .i64 s)/\Below w.1.size w w'
theorem QM(a b:List UInt8)(w:World)(ha:a.length<=100000)(hb:b.length<=100000):Calls Tryz.prog 81 #[S a,S b] w (Xf (QQ (val a-val b)) w):=by
 have HRa:=jq (QF a w (by omega));have HRb:=jq (fun W=>QF b W (by omega));obtain⟨K,hK⟩:∃K:Nat,K=100000:=⟨_,rfl⟩
 have hva:=Qr (show a.length<=K by omega);have hvb:=Qr (show b.length<=K by omega);have HK:=jq hK;clear hK;have HS:=jq (fun(r:Int)=>Zil (r:=r) (Xw a).symm (Xw b).symm (Zfn a) (Zfn b));have HPO:=jq (show Xf (QQ (val a-val b)) w=fun e w'=>e=.returned (.int .i64 (QQ (val a-val b)))/\Below w.1.size w w' from rfl);unfold QW at HRa HRb;have HVA:=jq hva;have HVB:=jq hvb;generalize Xf (QQ (val a-val b)) w=post at*;generalize QQ (val a-val b)=res at*;generalize (Qf a).2=na at*;generalize (Qf b).2=nb at*;generalize Qg (Qf a).1=u at*;generalize Qg (Qf b).1=v at*;clear ha hb hva hvb;unfold S at*
 go_enter Tryz.func81,Tryz.ntmps81
 go_wp2_with fail
 refine HRa.out.mono ?_;rintro e w1 ⟨A1,n1,c1,xs,rfl,ho1,mg1,hb1⟩;have HO1:=jq ho1;have HM1:=jq mg1;clear ho1 mg1 HRa;go_wp2_with fail
 refine(HRb.out _).mono ?_;rintro e w2 ⟨A2,n2,c2,ys,rfl,ho2,mg2,hb2⟩;have HO2:=jq ho2;have HM2:=jq mg2;clear ho2 mg2 HRb;have HX1:=jq ((HO1.out.below hb2).sl Qc);have HX2:=jq (HO2.out.sl Qc);have HL1:=jq (show n1<=K by rw[HX1.out.1];exact HM1.out.len HVA.out);have HL2:=jq (show n2<=K by rw[HX2.out.1];exact HM2.out.len HVB.out);have hb02:=hb1.trans (hb2.mono hb1.size);have hN1:NumB ((w2.alloc (.cells #[.bool na,.slice A1 n1 c1] 106)).alloc (.cells #[.bool nb,.slice A2 n2 c2] 106)) w2.1.size na A1 n1 c1:=(NumB.new w2 na A1 n1 c1).alloc _
 have hN2:NumB ((w2.alloc (.cells #[.bool na,.slice A1 n1 c1] 106)).alloc (.cells #[.bool nb,.slice A2 n2 c2] 106)) (w2.1.size+1) nb A2 n2 c2:=by
  have:=NumB.new (w2.alloc (.cells #[.bool na,.slice A1 n1 c1] 106)) nb A2 n2 c2
  simpa using this
 have hbA:Below w2.1.size w2 ((w2.alloc (.cells #[.bool na,.slice A1 n1 c1] 106)).alloc (.cells #[.bool nb,.slice A2 n2 c2] 106)):=((Below.refl _ _).alloc (Nat.le_refl _) _).alloc (by simp) _;have HX1':=jq (HX1.out.here hbA);have HX2':=jq (HX2.out.here hbA);have hb0A:=hb02.trans (hbA.mono hb02.size);have HN1:=jq hN1;have HN2:=jq hN2;clear hN1 hN2 hbA HX1 HX2 HO1 HO2;go_wp2_with fail
 generalize (w2.alloc (.cells #[.bool na,.slice A1 n1 c1] 106)).alloc (.cells #[.bool nb,.slice A2 n2 c2] 106)=W at*
 (with_reducible refine(Xt A1 A2 n1 n2 c1 c2 xs ys u v W HX1'.out HX2'.out HM1.out HM2.out (by have:=HL1.out;have:=HK.out;omega) (by have:=HL2.out;have:=HK.out;omega)).mono ?_)
 rintro e w3 ⟨r,rfl,hr1,hr2,hr3,hr4,hb3⟩;have x0:=(HN1.out.here hb3).cells.1;have y0:=(HN2.out.here hb3).cells.1;have HR:=jq (HS.out r hr1 hr2);have hb03:=hb0A.trans (hb3.mono hb0A.size);clear hr1 hr2 HS
 cases na<;>cases nb
 all_goals
  go_wp2_with fail
  rw[HPO.out];refine⟨?_,hb03⟩;simp at HR;rw[HR.out];rfl
theorem Zhh(na nb:Bool)(u v:Nat)(hv:0<v):
 (na=nb\/u%v=0->(sv na u).fdiv (sv nb v)=sv (na !=nb) (u/v)/\(sv na u).fmod (sv nb v)=sv nb (u%v))/\
 (na≠nb/\0<u%v->(sv na u).fdiv (sv nb v)=sv (na !=nb) (u/v+1)/\(sv na u).fmod (sv nb v)=sv nb (v-u%v)):=by
 have hdm:=Nat.div_add_mod u v;have hlt:=Nat.mod_lt u hv;generalize u/v=q at*;generalize u%v=r at*;have hu:(u:Int)=(v:Int)*q+r:=by rw[<-hdm];simp
 clear hdm
 have key:∀(a b x y:Int),b=v\/b= -(v:Int)->y+b*x=a->(0<=y/\y<b\/b<y/\y<=0)->a.fdiv b=x/\a.fmod b=y:=by
  intro a b x y hb he hr
  rcases hr with ⟨h1,h2⟩|⟨h1,h2⟩
  ·exact(Int.fdiv_fmod_unique (by omega)).2 ⟨he,h1,h2⟩
  ·exact(Int.fdiv_fmod_unique' (by omega)).2 ⟨he,h1,h2⟩
 constructor
 ·intro h;refine key _ _ _ _ (by cases nb<;>simp[sv]) ?_ ?_
  ·cases na<;>cases nb<;>simp[sv,Int.mul_neg,Int.neg_mul] at h ⊢ <;>(try subst h)<;>(try simp at hu)<;>omega
  ·cases nb<;>simp[sv]<;>omega
 ·rintro⟨h,h0⟩;refine key _ _ _ _ (by cases nb<;>simp[sv]) ?_ ?_
  ·cases na<;>cases nb<;>simp[sv,Int.mul_neg,Int.neg_mul,Int.mul_add] at h ⊢ <;>omega
  ·cases nb<;>simp[sv]<;>omega
def YD(a b:Int)(w:World)(e:Ending)(w':World):Prop:=
 e=.returned (if b=0 then .tuple #[S [],S [],.int .i64 10] else .tuple #[S (Qb (a.fdiv b)),S (Qb (a.fmod b)),.int .i64 0])/\Below w.1.size w w'
theorem Zer(a:List UInt8):Qg (Qf a).1=0↔val a=0:=by
 rw[<-Xw]
 cases(Qf a).2<;>simp[sv]
end
section
structure DvSt (w:World) (p:Nat) (na nb:Bool) (A1 A2:Option Addr) (n1 c1 n2 c2:Nat) (ys:List Nat) (wc:World):Prop where
 x:NumB wc p na A1 n1 c1
 y:NumB wc (p+1) nb A2 n2 c2
 g:Gr wc wc.1.size A2 n2 ys
 bl:Below w.1.size w wc
theorem DvSt.here{w:World}{p:Nat}{na nb:Bool}{A1 A2:Option Addr}{n1 c1 n2 c2:Nat}{ys:List Nat}{W W':World}(h:DvSt w p na nb A1 A2 n1 c1 n2 c2 ys W)(hb:Below W.1.size W W'):DvSt w p na nb A1 A2 n1 c1 n2 c2 ys W':=
 ⟨h.x.here hb,h.y.here hb,h.g.here hb,h.bl.trans (hb.mono h.bl.size)⟩
theorem Jy(a b:List UInt8)(w:World)(hp:Pow w)(ha:a.length<=100000)(hb:b.length<=100000):Calls Tryz.prog 144 #[S a,S b] w (YD (val a) (val b) w):=by
 have HRa:=jq (QF a w (by omega));have HRb:=jq (fun W=>QF b W (by omega));obtain⟨K,hK⟩:∃K:Nat,K=100000:=⟨_,rfl⟩
 have hva:=Qr (show a.length<=K by omega);have hvb:=Qr (show b.length<=K by omega);have HK:=jq hK;clear hK;have HSA:=jq (Xw a);have HSB:=jq (Xw b);have HZ:=jq (Zer b);have HPO:=jq (show YD (val a) (val b) w=fun e w'=>e=.returned (if val b=0 then .tuple #[S [],S [],.int .i64 10] else .tuple #[S (Qb ((val a).fdiv (val b))),S (Qb ((val a).fmod (val b))),.int .i64 0])/\Below w.1.size w w' from rfl);unfold QW at HRa HRb;have HVA:=jq hva;have HVB:=jq hvb;have HP:=jq hp;generalize YD (val a) (val b) w=post at*;generalize val a=x at*;generalize val b=y at*;generalize (Qf a).2=na at*;generalize (Qf b).2=nb at*;generalize Qg (Qf a).1=u at*;generalize Qg (Qf b).1=v at*;clear ha hb hva hvb hp;unfold S at*
 go_enter Tryz.func144,Tryz.ntmps144
 go_wp2_with fail
 refine HRa.out.mono ?_;rintro e w1 ⟨A1,n1,c1,xs,rfl,ho1,mg1,hb1⟩;have HO1:=jq ho1;have HM1:=jq mg1;clear ho1 mg1 HRa;go_wp2_with fail
 refine(HRb.out _).mono ?_;rintro e w2 ⟨A2,n2,c2,ys,rfl,ho2,mg2,hb2⟩;have HO2:=jq ho2;have HM2:=jq mg2;clear ho2 mg2 HRb;have HX1:=jq ((HO1.out.below hb2).sl Qc);have HX2:=jq (HO2.out.sl Qc);have HL1:=jq (show n1<=K by rw[HX1.out.1];exact HM1.out.len HVA.out);have HL2:=jq (show n2<=K by rw[HX2.out.1];exact HM2.out.len HVB.out);have hcap1:n1<=c1:=by obtain⟨h1,h2,_⟩:=HO1.out.facts;omega
 have hb02:=hb1.trans (hb2.mono hb1.size);have hN1:NumB ((w2.alloc (.cells #[.bool na,.slice A1 n1 c1] 106)).alloc (.cells #[.bool nb,.slice A2 n2 c2] 106)) w2.1.size na A1 n1 c1:=(NumB.new w2 na A1 n1 c1).alloc _
 have hN2:NumB ((w2.alloc (.cells #[.bool na,.slice A1 n1 c1] 106)).alloc (.cells #[.bool nb,.slice A2 n2 c2] 106)) (w2.1.size+1) nb A2 n2 c2:=by
  have:=NumB.new (w2.alloc (.cells #[.bool na,.slice A1 n1 c1] 106)) nb A2 n2 c2
  simpa using this
 have hbA:Below w2.1.size w2 ((w2.alloc (.cells #[.bool na,.slice A1 n1 c1] 106)).alloc (.cells #[.bool nb,.slice A2 n2 c2] 106)):=((Below.refl _ _).alloc (Nat.le_refl _) _).alloc (by simp) _;have HX1':=jq (HX1.out.here hbA);have HX2':=jq (HX2.out.here hbA);have hb0A:=hb02.trans (hbA.mono hb02.size);have HST:=jq (show DvSt w w2.1.size na nb A1 A2 n1 c1 n2 c2 ys _ from⟨hN1,hN2,HX2'.out,hb0A⟩);have HNZ:=jq (show n2=0↔v=0 by rw[HX2.out.1,<-HM2.out.nil_iff];exact⟨List.eq_nil_of_length_eq_zero,fun h=>by rw[h];rfl⟩);clear hN1 hN2 hbA HX1 HX2 HO1 HO2
 by_cases hy0:y=0
 ·have hn2:n2=0:=HNZ.out.2 (HZ.out.2 hy0);rw[if_pos hy0] at HPO;have hn2b:((n2:Int)==0)=true:=by simp[hn2]
  clear HST HX1' HX2' HNZ HSB hn2 hy0 HZ;go_wp2_with fail
  go_ret3
  rw[HPO.out];exact⟨rfl,hb0A⟩
 ·have hv0:0<v:=Nat.pos_of_ne_zero (fun h=>hy0 (HZ.out.1 h));have hn2:0<n2:=Nat.pos_of_ne_zero (fun h=>by have:=HNZ.out.1 h;omega);have hn2b:((n2:Int)==0)=false:=by simp;omega
  rw[if_neg hy0] at HPO;clear hy0 HNZ HZ;go_wp2_with fail
  generalize (w2.alloc (.cells #[.bool na,.slice A1 n1 c1] 106)).alloc (.cells #[.bool nb,.slice A2 n2 c2] 106)=W at*
  (with_reducible refine(JQ A1 A2 n1 n2 c1 c2 xs ys u v W HX1'.out HX2'.out HM1.out HM2.out (by have:=HL1.out;have:=HK.out;omega) (by have:=HL2.out;have:=HK.out;omega) hcap1 hv0).mono ?_)
  rintro e w3 ⟨A3,n3,c3,qs,A4,n4,c4,rs,rfl,hg3,hc3,mg3,hg4,hc4,mg4,hb3⟩;have HS3:=jq (HST.out.here hb3);have HG3:=jq hg3;have HG4:=jq hg4;have HM3:=jq mg3;have HM4:=jq mg4;have HL3:=jq (show n3<=K by rw[hg3.1];exact mg3.len (Nat.lt_of_le_of_lt (Nat.div_le_self _ _) HVA.out));have HL4:=jq (show n4<=K by rw[hg4.1];exact mg4.len (Nat.lt_trans (Nat.mod_lt _ hv0) HVB.out));have HNZ4:=jq (show n4=0↔u%v=0 by rw[hg4.1,<-mg4.nil_iff];exact⟨List.eq_nil_of_length_eq_zero,fun h=>by rw[h];rfl⟩);have HFD:=jq (Zhh na nb u v hv0);rw[HSA.out,HSB.out] at HFD;clear hg3 hg4 mg3 mg4 HST hn2b;have x0:=HS3.out.x.cells.1;have y0:=HS3.out.y.cells.1;have y1:=HS3.out.y.cells.2;obtain⟨bb,hbb⟩:∃bb:Bool,bb=((na !=nb)&&decide (0<n4)):=⟨_,rfl⟩
  have HBB:=jq hbb;clear hbb;go_upto_region 5 with (fail)
  go_cut [36] (fun s wc=>s=.bool bb/\wc=w3)
  case first=>
   cases na<;>cases nb
   all_goals
    go_wp2_with fail
    go_meet
    refine⟨by rw[HBB.out];rfl,rfl⟩
  case rest=>
  obtain⟨rfl,hwc⟩:=hcut
  obtain⟨w4,rfl⟩:∃W,W=wc:=⟨_,rfl⟩
  subst hwc;go_upto_if 36 with (fail)
  go_cut [9,10] (fun s t wc=>∃(A5 A6:Option Addr) (n5 c5 n6 c6:Nat) (qs' rs':List Nat) (Q R:Nat),s=.slice A5 n5 c5/\t=.slice A6 n6 c6/\Hid (Gr wc wc.1.size A5 n5 qs')/\Hid (Gr wc wc.1.size A6 n6 rs')/\n5<=c5/\n6<=c6/\Hid (n5<=K+1)/\Hid (n6<=K+1)/\Hid (Mag qs' Q)/\Hid (Mag rs' R)/\Hid (x.fdiv y=sv (na !=nb) Q)/\Hid (x.fmod y=sv nb R)/\Hid (DvSt w w2.1.size na nb A1 A2 n1 c1 n2 c2 ys wc))
  case first=>
   cases bb with
   |false=>
    have HEQ:=jq (HFD.out.1 (by
     have h1:=HBB.out
     by_cases h:na=nb
     ·exact .inl h
     ·refine .inr (HNZ4.out.1 ?_);have h2:(na !=nb)=true:=by simpa using h
      rw[h2] at h1;simp at h1;exact h1))
    go_wp2_with fail
    go_meet
    exact⟨A3,A4,n3,c3,n4,c4,qs,rs,u/v,u%v,rfl,rfl,HG3,HG4,hc3,hc4,by show _<=_;have:=HL3.out;omega,by show _<=_;have:=HL4.out;omega,HM3,HM4,HEQ.out.1,HEQ.out.2,HS3⟩
   |true=>
    have hne:na≠nb/\0<n4:=by have h1:=HBB.out;simp at h1;exact h1
    have hr0:0<u%v:=Nat.pos_of_ne_zero (fun h=>by have:=HNZ4.out.2 h;omega);have HEQ:=jq (HFD.out.2 ⟨hne.1,hr0⟩);clear hne;have hbP:Below w4.1.size w4 (w4.alloc (.cells #[.int .u64 1] 138)).drew:=((Below.refl _ _).alloc (Nat.le_refl _) _).drew
    have HSL:=jq (show Gr (w4.alloc (.cells #[.int .u64 1] 138)).drew (w4.alloc (.cells #[.int .u64 1] 138)).drew.1.size (some ⟨w4.1.size,0,none⟩) 1 [1] by
     have:=Sl.lit w4 #[.int .u64 1] 138 [1] rfl Qc
     simpa using this.drew)
    have HPL:=jq (Zcg A3 (some ⟨w4.1.size,0,none⟩) n3 1 c3 1 qs [1] (u/v) 1 (w4.alloc (.cells #[.int .u64 1] 138)).drew (HG3.out.here hbP) HSL.out HM3.out (Mag.one (by omega) (by omega)) (by have:=HL3.out;have:=HK.out;omega) (by omega));have HBP:=jq hbP;clear hbP HSL;go_upto_region 6 with (fail)
    go_region_held3 (fun w'=>w'.cell? ⟨w2.1.size+1,1,none⟩=some (.slice A2 n2 c2))
     (first
       |go_keep
       |exact(HS3.out.here hbz).y.cells.2
       |exact(HS3.out.here hbz2).y.cells.2)
     (first
       |(go_at_call 112;refine HPL.out.mono ?_;rintro e w5 ⟨A5,n5,c5,qs',rfl,ho5,mg5,hb5⟩
         have hbz:Below w4.1.size w4 w5:=HBP.out.trans (hb5.mono HBP.out.size);have HO5:=jq ho5;have HM5:=jq mg5;clear ho5 mg5)
       |(go_at_call 114;refine(ZaT A2 A4 n2 n4 c2 c4 ys rs v (u%v) _ (HS3.out.here hbz).g (HG4.out.here hbz) HM2.out HM4.out (by have:=HL2.out;have:=HK.out;omega) (Nat.le_of_lt (Nat.mod_lt _ hv0))).mono ?_;rintro e w6 ⟨A6,n6,c6,rs',rfl,ho6,mg6,hb6⟩
         have hbz2:Below w4.1.size w4 w6:=hbz.trans (hb6.mono hbz.size);have HO6:=jq ho6;have HM6:=jq mg6;clear ho6 mg6))
    all_goals
     go_wp2_with fail
     go_meet
     have h5:=HO5.out.below hb6;refine⟨A5,A6,n5,c5,n6,c6,qs',rs',u/v+1,v-u%v,rfl,rfl,h5.sl Qc,HO6.out.sl Qc,?_,?_,?_,?_,HM5,HM6,HEQ.out.1,HEQ.out.2,HS3.out.here hbz2⟩
     ·obtain⟨h1,h2,_⟩:=h5.facts;omega
     ·obtain⟨h1,h2,_⟩:=HO6.out.facts;omega
     ·show _<=_
      rw[h5.facts.1];refine HM5.out.len ?_;rw[Nat.pow_succ];have h1:=Nat.div_le_self u v;have h2:=HVA.out;omega
     ·show _<=_
      rw[HO6.out.facts.1];refine HM6.out.len ?_;rw[Nat.pow_succ];have h2:=HVB.out;omega
  case rest=>
  obtain⟨A5,A6,n5,c5,n6,c6,qs',rs',Q,R,rfl,rfl,HG5,HG6,hc5,hc6,HL5,HL6,HM5,HM6,HE1,HE2,HS5⟩:=hcut
  obtain⟨w5,rfl⟩:∃W,W=wc:=⟨_,rfl⟩
  clear x0 y0 y1 HS3 HG3 HG4;obtain⟨x0,y0⟩:w5.cell? ⟨w2.1.size,0,none⟩=some (.bool na)/\w5.cell? ⟨w2.1.size+1,0,none⟩=some (.bool nb):=⟨HS5.out.x.cells.1,HS5.out.y.cells.1⟩
  have HT1:=jq (XD (na !=nb) A5 n5 c5 qs' w5.drew HG5.out.drew HM5.out.gs hc5 (by have:=HL5.out;have:=HK.out;omega) (HP.out.here HS5.out.bl.drew));rw[HM5.out.val,Ym,<-HE1.out,show(na !=nb)= !(na==nb) from rfl] at HT1;have HT2:=jq (fun W (hb:Below w5.1.size w5 W)=>XD nb A6 n6 c6 rs' W (HG6.out.here hb) HM6.out.gs hc6 (by have:=HL6.out;have:=HK.out;omega) (HP.out.here (HS5.out.here hb).bl));rw[HM6.out.val,Ym,<-HE2.out] at HT2;unfold S at HT1 HT2;go_upto_region 7 with (fail)
  go_region_held3 (fun w'=>w'.cell? ⟨w2.1.size,0,none⟩=some (.bool na)/\w'.cell? ⟨w2.1.size+1,0,none⟩=some (.bool nb))
   (first
     |go_keep
     |exact⟨(HS5.out.here hbz).x.cells.1,(HS5.out.here hbz).y.cells.1⟩
     |exact⟨(HS5.out.here hbz2).x.cells.1,(HS5.out.here hbz2).y.cells.1⟩)
   (first
     |(go_at_call_of 69 (Value.agg #[.bool (!(na==nb)),.slice A5 n5 c5]);refine HT1.out.mono ?_;rintro e w6 ⟨rfl,hb6⟩
       have hbz:Below w5.1.size w5 w6:=(Below.refl _ w5).drew.trans hb6)
     |(go_at_call 69;refine(HT2.out _ hbz).mono ?_;rintro e w7 ⟨rfl,hb7⟩
       have hbz2:Below w5.1.size w5 w7:=hbz.trans (hb7.mono hbz.size)))
  all_goals
   go_wp2_with fail
   go_ret3
   rw[HPO.out];exact⟨rfl,HS5.out.bl.trans (hbz2.mono HS5.out.bl.size)⟩
end
end Go.Proofs.YtokjnjdbnabchaaGreatDoor
