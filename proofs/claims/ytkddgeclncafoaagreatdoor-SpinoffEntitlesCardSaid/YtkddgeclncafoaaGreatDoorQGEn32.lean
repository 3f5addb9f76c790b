/- Fp6, Cf, FpQ, Sp1, Sp2, Sp3, Aw28, V0, ChkC, CmpR. -/
import Derived.Test.YtkddgeclncafoaaGreatDoorQGEn5
set_option maxRecDepth 20000
set_option maxHeartbeats 1000000
namespace Go.Proofs.YtkddgeclncafoaaGreatDoor
open Go.Lib renaming hid→jq
section
open Go.RowKit Go.Shelf
def Xt(r:Fr×Int)(w:World)(e:Ending)(w':World):Prop:=e=.returned (.tuple #[Qq r.1,.int .i64 r.2])/\Below w.1.size w w'
def Za7(x y:Rat):Fr×Int:=if y=0 then(Fr.zero,10) else(Qd (x/y),0)
theorem ZfI(n:Int):(Qt n==0)=decide (n=0):=by
 unfold Qt;rw[Bool.eq_iff_iff];simp
 (repeat' split)<;>omega
theorem Zkk{f h:Fr}{L:Nat}(hf:f.Sz L)(hh:h.Sz L)(hL:1<=L):(Qd (f.rat-h.rat)).Sz (L+L+1+1):=QV (ZnO hf hh hL)
theorem Ye(f h:Fr)(w:World)(hp:Pow w)(hf:f.Sz 20000)(hh:h.Sz 20000):Calls Tryz.prog 41 #[Qq f,Qq h] w (Qn (QK f.rat h.rat) w):=by
 have HSU:=jq (fun W hp=>ZcB f h W hp hf hh)
 have hsz:(Qd (f.rat-h.rat)).Sz 40002:=by
  obtain⟨K,hKe⟩:∃K:Nat,K=20000:=⟨_,rfl⟩
  rw[<-hKe] at hf hh;have:=Zkk hf hh (by omega)
  rw[hKe] at this;exact this
 have HCR:=jq (show QK f.rat h.rat=Qt (val (Qd (f.rat-h.rat)).n-val []) by
  rw[Zj0,Xr,Int.sub_zero];unfold Qd;simp only[Qc])
 have HPO:=jq (show Qn (QK f.rat h.rat) w=fun e w'=>e=.returned (.int .i64 (QK f.rat h.rat))/\Below w.1.size w w' from rfl);generalize Qn (QK f.rat h.rat) w=post at*;rw[HCR.out] at HPO;generalize Qd (f.rat-h.rat)=r at*;have HPA:=jq (fun W=>Ve r W (by have:=hsz.2;omega));have HCM:=jq (fun W=>QR r.n [] W (by have:=hsz.1;omega) (by simp));have HP:=jq hp;have hB1:FrB ((w.alloc (.cells #[.string ⟨f.n.toArray⟩,.string ⟨f.d.toArray⟩] 26)).alloc (.cells #[.string ⟨h.n.toArray⟩,.string ⟨h.d.toArray⟩] 26)) w.1.size f:=(FrB.new w f).alloc _
 have hB2:FrB ((w.alloc (.cells #[.string ⟨f.n.toArray⟩,.string ⟨f.d.toArray⟩] 26)).alloc (.cells #[.string ⟨h.n.toArray⟩,.string ⟨h.d.toArray⟩] 26)) (w.1.size+1) h:=by
  have:=FrB.new (w.alloc (.cells #[.string ⟨f.n.toArray⟩,.string ⟨f.d.toArray⟩] 26)) h
  simp only[World.size_alloc] at this;exact this
 have hbA:Below w.1.size w ((w.alloc (.cells #[.string ⟨f.n.toArray⟩,.string ⟨f.d.toArray⟩] 26)).alloc (.cells #[.string ⟨h.n.toArray⟩,.string ⟨h.d.toArray⟩] 26)):=((Below.refl _ _).alloc (Nat.le_refl _) _).alloc (by simp) _;obtain⟨x0,x1⟩:=hB1.cells
 obtain⟨y0,y1⟩:=hB2.cells
 have HBA:=jq hbA;clear hp hf hh hsz HCR hB1 hB2 hbA;unfold Qq at*
 unfold S at*
 go_enter Tryz.func41,Tryz.ntmps41
 go_wp2_with fail
 generalize (w.alloc (.cells #[.string ⟨f.n.toArray⟩,.string ⟨f.d.toArray⟩] 26)).alloc (.cells #[.string ⟨h.n.toArray⟩,.string ⟨h.d.toArray⟩] 26)=W at*;refine(HSU.out W (HP.out.here HBA.out)).mono ?_;rintro e w1 ⟨rfl,hb1⟩;unfold Qq S;have hb01:=HBA.out.trans (hb1.mono HBA.out.size);go_wp2_with fail
 refine(HPA.out w1).mono ?_;rintro e w2 ⟨rfl,hb2⟩;unfold S;have hb02:=hb01.trans (hb2.mono hb01.size);go_wp2_with fail
 refine(HCM.out w2).mono ?_;rintro e w3 ⟨rfl,hb3⟩;have hb03:=hb02.trans (hb3.mono hb02.size);go_wp2_with fail
 rw[HPO.out];exact⟨rfl,hb03⟩
theorem Zch(a:List UInt8)(w:World)(hp:Pow w)(ha:a.length<=50000):Calls Tryz.prog 25 #[S a] w (Qh (Qd (val a)) w):=by
 have hbA:Below w.1.size w (w.alloc (.cells #[.string ⟨#[]⟩,.string ⟨#[]⟩] 26)):=(Below.refl _ _).alloc (Nat.le_refl _) _;have HMD:=jq (ZcA a [49] (w.alloc (.cells #[.string ⟨#[]⟩,.string ⟨#[]⟩] 26)) (hp.here hbA) ha (by simp) (by rw[XS];omega));rw[XS,XU] at HMD;have HPO:=jq (show Qh (Qd (val a)) w=fun e w'=>e=.returned (Qq (Qd (val a)))/\Below w.1.size w w' from rfl);generalize Qh (Qd (val a)) w=post at*;generalize Qd (val a)=res at*;have HB:=jq (show FrB (w.alloc (.cells #[.string ⟨#[]⟩,.string ⟨#[]⟩] 26)) w.1.size Fr.zero from FrB.new w Fr.zero);have HBA:=jq hbA;clear hp ha hbA;unfold Qq at*
 unfold S at*
 go_enter Tryz.func25,Tryz.ntmps25
 go_wp2_with fail
 generalize w.alloc _=W at*;refine HMD.out.mono ?_;rintro e w1 ⟨rfl,hb1⟩;unfold Qq S;have HB1:=jq (HB.out.here hb1);obtain⟨c0,c1⟩:=HB1.out.cells
 have f0:=HB1.out.frozen 0;have f1:=HB1.out.frozen 1;have hb01:=HBA.out.trans (hb1.mono HBA.out.size);go_wp2_with fail
 refine bodyPost_ret (v:=.agg #[.string ⟨res.n.toArray⟩,.string ⟨res.d.toArray⟩]) (by simp[results,Tryz.results25,go_sem,c0,c1]) rfl ?_;rw[HPO.out];exact⟨rfl,(hb01.setCell (p:=⟨w.1.size,0,none⟩) (Nat.le_refl _) _).setCell (p:=⟨w.1.size,1,none⟩) (Nat.le_refl _) _⟩
def Vb(f:Fr):Int:=if f.ok then 0 else 1
theorem ZaN(f:Fr)(w:World)(hp:Pow w)(hf:f.Sz 20000):Calls Tryz.prog 49 #[Qq f] w (Qn (Vb f) w):=by
 have hbA:Below w.1.size w (w.alloc (.cells #[.string ⟨f.n.toArray⟩,.string ⟨f.d.toArray⟩] 26)):=(Below.refl _ _).alloc (Nat.le_refl _) _;have HPA:=jq (fun W=>Ve f W (by have:=hf.2;omega));have HMD:=jq (fun W hp=>ZcA f.n f.dt W hp (by have:=hf.1;omega) (by have:=Fr.dt_len hf.2 (by omega);omega) (by rw[Fr.val_dt];exact f.dv_ne));rw[Fr.val_dt,show Rat.divInt (val f.n) f.dv=f.rat from rfl] at HMD;have HPO:=jq (show Qn (Vb f) w=fun e w'=>e=.returned (.int .i64 (Vb f))/\Below w.1.size w w' from rfl);have HCK:=jq (show Vb f=if f=Qd f.rat then 0 else 1 from rfl);generalize Qn (Vb f) w=post at*;generalize Qd f.rat=g at*;have HB:=jq (FrB.new w f);have HBA:=jq hbA;have HP:=jq hp;obtain⟨x0,x1⟩:=HB.out.cells
 clear hp hf hbA
 have HEQ:=jq (show Vb f=if(f.n==g.n)&&(f.d==g.d) then 0 else 1 by
  rw[HCK.out]
  by_cases h:f=g
  ·subst h;simp
  ·rw[if_neg h,if_neg];intro h2;simp at h2;exact h (Fr.ext_ h2.1 h2.2))
 clear HCK;unfold Qq at*
 unfold S at*
 cases hn:(f.n==g.n)<;>cases hd:(f.d==g.d)
 all_goals
  rw[hn,hd] at HEQ;simp only[Bool.and_true,Bool.and_false,Bool.false_eq_true,if_true,if_false] at HEQ;go_enter Tryz.func49,Tryz.ntmps49
  go_upto_region 1 with (fail)
  generalize w.alloc _=W at*
  go_region_held3 (fun w'=>w'.cell? ⟨w.1.size,0,none⟩=some (.string ⟨f.n.toArray⟩)/\w'.cell? ⟨w.1.size,1,none⟩=some (.string ⟨f.d.toArray⟩))
   (first
     |exact(HB.out.here hz2).cells
     |exact(HB.out.here hz).cells
     |go_keep)
   (first
     |(go_at_call 85;refine(HPA.out _).mono ?_;rintro e w1 ⟨rfl,hb1⟩;unfold S;have hz:Below W.1.size W w1:=(Below.refl _ W).drew.trans hb1)
     |(go_at_call 67;refine(HMD.out _ (HP.out.here (HBA.out.trans (hz.mono HBA.out.size)))).mono ?_;rintro e w2 ⟨rfl,hb2⟩;unfold Qq S;have hz2:=hz.trans (hb2.mono hz.size)))
  all_goals
   go_wp2_with fail
   rw[HPO.out,HEQ.out];exact⟨rfl,HBA.out.trans (hz2.mono HBA.out.size)⟩
end
section
open Go.RowKit Go.Shelf
def F2(f:Fr):List Value:=[S f.n,S f.d]
theorem Zby(f:Fr):(F2 f).length=2:=rfl
abbrev Frs(w:World)(B:Nat)(A:Option Addr)(n:Nat)(xs:List Fr):Prop:=Sl F2 2 w B A n xs
theorem Sl.fr{w:World}{B:Nat}{A:Option Addr}{n:Nat}{xs:List Fr}{i:Nat}(h:Frs w B A n xs)(hi:i<n):
 ∃b off x,A=some ⟨b,off,none⟩/\b<B/\xs[i]?=some x/\w.cell? ⟨b,off+i*2,none⟩=some (.string ⟨x.n.toArray⟩)/\w.cell? ⟨b,off+i*2+1,none⟩=some (.string ⟨x.d.toArray⟩):=by
 obtain⟨b,off,x,hA,hb,hx,hc⟩:=h.at_ hi
 exact⟨b,off,x,hA,hb,hx,hc 0 _ rfl,hc 1 _ rfl⟩
def ZfJ(p:Fr->Bool)(xs:List Fr):Int:=match xs.findIdx? p with|some i=>(i:Int)|none=> -1
theorem Zkm{p:Fr->Bool}{xs:List Fr}{j:Nat}{r:Fr}(h:xs[j]?=some r)(hr:p r=true)(hn:(xs.take j).any p=false):ZfJ p xs=j:=by
 unfold ZfJ
 have:xs.findIdx? p=some j:=by
  rw[List.findIdx?_eq_some_iff_getElem];obtain⟨hj,rfl⟩:=List.getElem?_eq_some_iff.1 h
  refine⟨hj,hr,fun i hi=> ?_⟩;rw[List.any_eq_false] at hn;have:=hn xs[i] (by rw[List.mem_take_iff_getElem];exact⟨i,by omega,rfl⟩)
  simpa using this
 rw[this]
theorem ZdN{p:Fr->Bool}{xs:List Fr}(hn:xs.any p=false):ZfJ p xs= -1:=by
 unfold ZfJ
 have:xs.findIdx? p=none:=by
  rw[List.findIdx?_eq_none_iff];intro x hx;rw[List.any_eq_false] at hn;simpa using hn x hx
 rw[this]
theorem ZfK(p:Fr->Bool)(xs:List Fr):decide (0<=ZfJ p xs)=xs.any p:=by
 cases h:xs.any p with
 |false=>rw[ZdN h];rfl
 |true=>
  rw[List.any_eq_true] at h;obtain⟨x,hx,hp⟩:=h
  unfold ZfJ
  cases hf:xs.findIdx? p with
  |none=>rw[List.findIdx?_eq_none_iff] at hf;rw[hf x hx] at hp;cases hp
  |some i=>simp
theorem ZiI{p:Fr->Bool}{xs:List Fr}{j:Nat}{r:Fr}(h:xs[j]?=some r)(hn:(xs.take j).any p=false)(hr:p r=false):(xs.take (j+1)).any p=false:=by
 obtain⟨hj,rfl⟩:=List.getElem?_eq_some_iff.1 h
 rw[List.take_succ_eq_append_getElem hj,List.any_append,hn];simp[hr]
theorem Zg0(g:Nat)(p:Fr->Bool)(A:Option Addr)(n c:Nat)(xs:List Fr)(w:World)(eg:∀args w,(callFunc g args).run Tryz.prog w=.ok (.enter g args) w)
 (hp:∀(W:World) (x:Fr),x∈xs->Below w.1.size w W->Calls Tryz.prog g #[Qq x] W fun e w'=>e=.returned (.bool (p x))/\Below W.1.size W w') (hr:Frs w w.1.size A n xs) (hn:n<=1000000000):
 Calls Tryz.prog 82 #[.slice A n c,.func (.func g) #[] #[]] w fun e w'=>e=.returned (.int .i64 (ZfJ p xs))/\Below w.1.size w w':=by
 have HPR:=jq hp;have HR:=jq hr;clear hp hr;go_enter Tryz.func82,Tryz.ntmps82
 go_wp2
 go_loopw [5,8] (fun _ i wr=>∃j:Nat,j<=n/\i=.int .i64 j/\Hid ((xs.take j).any p=false)/\Below w.1.size w wr) (fun _ i _=>n-(intOf i).toNat)
 case atStart=>exact⟨0,Nat.zero_le _,rfl,by show _=_;simp,Below.refl _ _⟩
 case round=>
  obtain⟨j,hj,rfl,HN,hb⟩:=hrel
  by_cases hlt:j<n
  ·obtain⟨b,off,r,rfl,hbl,hxj,d0,d1⟩:=(HR.out.below hb).fr hlt
   have HX:=jq hxj;have hcall:=HPR.out wr r (List.mem_of_getElem? hxj) hb;unfold Qq S at hcall;clear hxj;have HC:=jq hcall;clear hcall
   cases hq:p r with
   |true=>
    rw[hq] at HC;have HQ:=jq hq;clear hq;go_wp2_with (go_at_fn g;refine(HC.out).mono ?_;rintro e w' ⟨rfl,hb'⟩)
    go_ret
    exact⟨Qb (Zkm HX.out HQ.out HN.out).symm,hb.trans (hb'.mono hb.size)⟩
   |false=>
    rw[hq] at HC;have HQ:=jq hq;clear hq;go_wp2_with (go_at_fn g;refine(HC.out).mono ?_;rintro e w' ⟨rfl,hb'⟩)
    go_roundw
    case rel=>exact⟨j+1,by omega,by go_num,ZiI HX.out HN.out HQ.out,hb.trans (hb'.mono hb.size)⟩
    case measure=>simp[intOf];omega
  ·go_wp2
   go_ret
   exact⟨Qb (ZdN (by have:=HN.out;rwa [List.take_of_length_le (by have:=HR.out.1;omega)] at this)).symm,hb⟩
theorem VN(g:Nat)(p:Fr->Bool)(A:Option Addr)(n c:Nat)(xs:List Fr)(w:World)(eg:∀args w,(callFunc g args).run Tryz.prog w=.ok (.enter g args) w)
 (hp:∀(W:World) (x:Fr),x∈xs->Below w.1.size w W->Calls Tryz.prog g #[Qq x] W fun e w'=>e=.returned (.bool (p x))/\Below W.1.size W w') (hr:Frs w w.1.size A n xs) (hn:n<=1000000000):
 Calls Tryz.prog 37 #[.slice A n c,.func (.func g) #[] #[]] w fun e w'=>e=.returned (.bool (xs.any p))/\Below w.1.size w w':=by
 have H:=jq (Zg0 g p A n c xs w eg hp hr hn);clear hp eg hr;have e:=ZfK p xs;generalize ZfJ p xs=z at*;have E:=jq e;clear e;go_enter Tryz.func37,Tryz.ntmps37
 go_wp2_with (go_at_call 82;refine(H.out).mono ?_;rintro e w' ⟨rfl,hb'⟩)
 go_ret
 exact⟨Qe E.out,hb'⟩
end
section
open Go.RowKit Go.Shelf
theorem Zkn(f h:Fr)(w:World)(hp:Pow w)(hf:f.Sz 20000)(hh:h.Sz 20000):Calls Tryz.prog 42 #[Qq f,Qq h] w (Xt (Za7 f.rat h.rat) w):=by
 have HCM:=jq (QR h.n [] (((w.alloc (.cells #[.string ⟨f.n.toArray⟩,.string ⟨f.d.toArray⟩] 26)).alloc (.cells #[.string ⟨h.n.toArray⟩,.string ⟨h.d.toArray⟩] 26)).alloc (.cells #[.string ⟨#[]⟩,.string ⟨#[]⟩] 26)) (by have:=hh.1;omega) (by simp));rw[show val ([]:List UInt8)=0 from Xr,Int.sub_zero] at HCM
 have HAP:=jq (fun(h0:val h.n≠0) p W hlt hc hpw=>by
  obtain⟨K,hKe⟩:∃K:Nat,K=20000:=⟨_,rfl⟩
  rw[<-hKe] at hf hh;have hK:1<=K:=by omega
  exact Zap 115 _ Zo9 p f h W hlt hc hpw (by rw[<-hKe];exact hf) (by rw[<-hKe];exact hh) (Int.mul_ne_zero f.dv_ne h0) (JP (Qs (Qv hf.1) (Fr.dv_lt hh.2 hK)) (by omega)) (JP (Qs (Fr.dv_lt hf.2 hK) (Qv hh.1)) (by omega)))
 simp only[<-Zml] at HAP;have HQ:=jq (show Za7 f.rat h.rat=if val h.n=0 then(Fr.zero,10) else(Qd (f.rat/h.rat),0) by unfold Za7;simp only[Zfo]);have HPO:=jq (show Xt (Za7 f.rat h.rat) w=fun e w'=>e=.returned (.tuple #[Qq (Za7 f.rat h.rat).1,.int .i64 (Za7 f.rat h.rat).2])/\Below w.1.size w w' from rfl);generalize Xt (Za7 f.rat h.rat) w=post at*;generalize Qd (f.rat/h.rat)=res at*;have H3:=jq (Fr3.new w f h);have HP:=jq hp;obtain⟨x0,x1,y0,y1⟩:=H3.out.held
 clear hp hf hh;unfold Qq at*
 unfold S at*
 go_enter Tryz.func42,Tryz.ntmps42
 go_wp2_with fail
 generalize (((w.alloc (.cells #[.string ⟨f.n.toArray⟩,.string ⟨f.d.toArray⟩] 26)).alloc (.cells #[.string ⟨h.n.toArray⟩,.string ⟨h.d.toArray⟩] 26)).alloc (.cells #[.string ⟨#[]⟩,.string ⟨#[]⟩] 26))=W0 at*;refine HCM.out.mono ?_;rintro e W ⟨rfl,hb0⟩;have HS:=jq (ZfI (val h.n));have H4:=jq (H3.out.here hb0);clear x0 x1 y0 y1;obtain⟨x0,x1,y0,y1⟩:=H4.out.held
 by_cases h0:val h.n=0
 ·have hs:(Qt (val h.n)==0)=true:=by rw[HS.out];simp[h0]
  rw[if_pos h0] at HQ;have z0:=H4.out.c.cells.1;have z1:=H4.out.c.cells.2;have f0:=H4.out.c.frozen 0;have f1:=H4.out.c.frozen 1;clear h0 HS;go_wp2_with fail
  refine bodyPost_ret (v:=.tuple #[.agg #[.string ⟨#[]⟩,.string ⟨#[]⟩],.int .i64 10]) (by simp[results,Tryz.results42,go_sem,z0,z1]) rfl ?_;rw[HPO.out,HQ.out];exact⟨rfl,(H4.out.bl.setCell (p:=⟨w.1.size+1+1,0,none⟩) (by simp only;omega) _).setCell (p:=⟨w.1.size+1+1,1,none⟩) (by simp only;omega) _⟩
 ·have hs:(Qt (val h.n)==0)=false:=by rw[HS.out];simp[h0]
  rw[if_neg h0] at HQ;have HAP2:=jq (HAP.out h0);clear h0 HS HAP;go_upto_region 3 with (fail)
  go_region_held3 (fun w'=>w'.cell? ⟨w.1.size,0,none⟩=some (.string ⟨f.n.toArray⟩)/\w'.cell? ⟨w.1.size,1,none⟩=some (.string ⟨f.d.toArray⟩)/\w'.cell? ⟨w.1.size+1,0,none⟩=some (.string ⟨h.n.toArray⟩)/\w'.cell? ⟨w.1.size+1,1,none⟩=some (.string ⟨h.d.toArray⟩))
   (first
     |exact(H4.out.here hz2).heldS _ _
     |exact(H4.out.here hz2).held
     |exact(H4.out.here hz).held
     |go_keep)
   (first
     |(go_at_call 66;refine(Zcg _).mono ?_;rintro e w1 ⟨p,rfl,hlt,hc,hb1⟩;have hz:Below W.1.size W w1:=(Below.refl _ W).drew.trans hb1;have hix:=Zki p w1)
     |(go_at_call 65;refine(HAP2.out p _ hlt hc (HP.out.here (H4.out.here hz).bl)).mono ?_;rintro e w2 ⟨rfl,hb2⟩;unfold Qq S;have hz2:=hz.trans (hb2.mono hz.size);have z0:=(H4.out.here hz2).c.cells.1;have z1:=(H4.out.here hz2).c.cells.2;have f0:=(H4.out.here hz2).c.frozen 0;have f1:=(H4.out.here hz2).c.frozen 1))
  all_goals
   go_wp2_with fail
   refine bodyPost_ret (v:=.tuple #[.agg #[.string ⟨res.n.toArray⟩,.string ⟨res.d.toArray⟩],.int .i64 0]) (by simp[results,Tryz.results42,go_sem,z0,z1]) rfl ?_;rw[HPO.out,HQ.out];exact⟨rfl,((H4.out.here hz2).bl.setCell (p:=⟨w.1.size+1+1,0,none⟩) (by simp only;omega) _).setCell (p:=⟨w.1.size+1+1,1,none⟩) (by simp only;omega) _⟩
end
section
open Go.RowKit Go.Shelf
theorem Zg3(f:Fr)(w:World)(hp:Pow w)(hf:f.Sz 20000):Calls Tryz.prog 83 #[Qq f] w fun e w'=>e=.returned (.bool (!decide f.ok))/\Below w.1.size w w':=by
 have hbA:Below w.1.size w (w.alloc (.cells #[.string ⟨f.n.toArray⟩,.string ⟨f.d.toArray⟩] 26)):=(Below.refl _ _).alloc (Nat.le_refl _) _;have HC:=jq (ZaN f (w.alloc (.cells #[.string ⟨f.n.toArray⟩,.string ⟨f.d.toArray⟩] 26)) (hp.here hbA) hf);obtain⟨x0,x1⟩:=(FrB.new w f).cells
 have HE:=jq (show(Vb f !=0)= !decide f.ok by unfold Vb;by_cases h:f.ok<;>simp[h]);have HBA:=jq hbA;clear hp hf hbA;generalize Vb f=z at*;generalize decide f.ok=bb at*;unfold Qq at*
 unfold S at*
 go_enter Tryz.func83,Tryz.ntmps83
 go_wp2_with fail
 refine HC.out.mono ?_;rintro e w1 ⟨rfl,hb1⟩;go_wp2_with fail
 go_ret
 exact⟨Qe HE.out,HBA.out.trans (hb1.mono HBA.out.size)⟩
theorem ZfM(x:Rat):decide (QK x Fr.zero.rat<0)=decide (x<0):=by
 rw[VX];unfold QK
 by_cases h:x<0
 ·simp[h]
 ·rw[if_neg h];simp only[h,decide_false,decide_eq_false_iff_not]
  split<;>omega
theorem Zg4(f:Fr)(w:World)(hp:Pow w)(hf:f.Sz 20000):Calls Tryz.prog 84 #[Qq f] w fun e w'=>e=.returned (.bool (decide (f.rat<0)))/\Below w.1.size w w':=by
 have hbA:Below w.1.size w (w.alloc (.cells #[.string ⟨f.n.toArray⟩,.string ⟨f.d.toArray⟩] 26)):=(Below.refl _ _).alloc (Nat.le_refl _) _;have HC:=jq (Ye f Fr.zero (w.alloc (.cells #[.string ⟨f.n.toArray⟩,.string ⟨f.d.toArray⟩] 26)) (hp.here hbA) hf ⟨by simp[Fr.zero],by simp[Fr.zero]⟩);obtain⟨x0,x1⟩:=(FrB.new w f).cells
 have HE:=jq (ZfM f.rat);have HBA:=jq hbA;clear hp hf hbA;generalize QK f.rat Fr.zero.rat=z at*;generalize decide (f.rat<0)=bb at*;unfold Qq at*
 unfold S at*
 go_enter Tryz.func84,Tryz.ntmps84
 go_wp2_with fail
 refine HC.out.mono ?_;rintro e w1 ⟨rfl,hb1⟩;go_wp2_with fail
 go_ret
 exact⟨Qe HE.out,HBA.out.trans (hb1.mono HBA.out.size)⟩
def JB(p v r:Fr):Int:=if p.ok/\v.ok/\r.ok then(if p.rat<0\/v.rat<0\/r.rat<0\/r=Fr.zero then 2 else 0) else 1
theorem frz(r:Fr):(r=Fr.zero)↔(r.n=[]/\r.d=[]):=by
 constructor
 ·rintro rfl;exact⟨rfl,rfl⟩
 ·rintro⟨h1,h2⟩;exact Fr.ext_ h1 h2
theorem ZdQ(A:Option Addr)(c:Nat)(p v r:Fr)(w:World)(hp:Pow w)(hp2:p.Sz 20000)(hv:v.Sz 20000)(hr:r.Sz 20000)(hs:Frs w w.1.size A 3 [p,v,r]):
 Calls Tryz.prog 39 #[.slice A 3 c] w (Qn (JB p v r) w):=by
 have hsz:∀x∈[p,v,r],x.Sz 20000:=by
  intro x hx;simp at hx
  rcases hx with rfl|rfl|rfl<;>assumption
 have HC1:=jq (VN 83 (fun f=> !decide f.ok) A 3 c [p,v,r] w (enters_of Tryz.func83 (by kernel_rfl) rfl) (fun W x hx hb=>Zg3 x W (hp.here hb) (hsz x hx)) hs (by omega));have HC2:=jq (fun W (hbW:Below w.1.size w W)=>VN 84 (fun f=>decide (f.rat<0)) A 3 c [p,v,r] W (enters_of Tryz.func84 (by kernel_rfl) rfl) (fun W' x hx hb=>Zg4 x W' ((hp.here hbW).here hb) (hsz x hx)) (hs.here hbW) (by omega));have HPO:=jq (show Qn (JB p v r) w=fun e w'=>e=.returned (.int .i64 (JB p v r))/\Below w.1.size w w' from rfl);generalize Qn (JB p v r) w=post at*;obtain⟨b,off,x,hA,hb,hx,d0,d1⟩:=hs.fr (i:=2) (by omega)
 simp at hx;subst hx;subst hA
 have HR:=jq (frz r);have HD0:=jq d0;have HD1:=jq d1;have HK:=jq (show JB p v r=if p.ok/\v.ok/\r.ok then(if p.rat<0\/v.rat<0\/r.rat<0\/r=Fr.zero then 2 else 0) else 1 from rfl);clear hs d0 d1 hp hp2 hv hr hsz
 by_cases h1:p.ok/\v.ok/\r.ok
 ·rw[show[p,v,r].any (fun f=> !decide f.ok)=false by simp[h1]] at HC1;rw[if_pos h1] at HK
  by_cases h2:p.rat<0\/v.rat<0\/r.rat<0
  ·rw[show[p,v,r].any (fun f=>decide (f.rat<0))=true by simp;exact h2] at HC2;rw[if_pos (by rcases h2 with h|h|h<;>simp[h])] at HK;clear h1 h2;go_enter Tryz.func39,Tryz.ntmps39
   go_wp2_with fail
   refine HC1.out.mono ?_;rintro e w1 ⟨rfl,hb1⟩;go_wp2_with fail
   refine(HC2.out _ hb1).mono ?_;rintro e w2 ⟨rfl,hb2⟩;go_wp2_with fail
   rw[HPO.out,HK.out];exact⟨rfl,hb1.trans (hb2.mono hb1.size)⟩
  ·rw[show[p,v,r].any (fun f=>decide (f.rat<0))=false by simp only[List.any_cons,List.any_nil,Bool.or_false,Bool.or_eq_false_iff,decide_eq_false_iff_not];simp only[not_or] at h2;exact⟨h2.1,h2.2.1,h2.2.2⟩] at HC2
   have HK2:=jq (show JB p v r=if(r.n==[])&&(r.d==[]) then 2 else 0 by
    rw[HK.out];simp only[not_or] at h2;simp only[h2.1,h2.2.1,h2.2.2,false_or,HR.out]
    by_cases ha:r.n=[]<;>by_cases hb:r.d=[]<;>simp[ha,hb])
   clear h1 h2 HK HR
   cases hn:(r.n==[])<;>cases hd:(r.d==[])
   all_goals
    rw[hn,hd] at HK2;simp only[Bool.and_true,Bool.and_false,Bool.false_eq_true,if_true,if_false] at HK2;go_enter Tryz.func39,Tryz.ntmps39
    go_wp2_with fail
    refine HC1.out.mono ?_;rintro e w1 ⟨rfl,hb1⟩;go_wp2_with fail
    refine(HC2.out _ hb1).mono ?_;rintro e w2 ⟨rfl,hb2⟩;have hb12:=hb1.trans (hb2.mono hb1.size);have e0:=(hb12.cell (p:=⟨b,off+2*2,none⟩) hb).trans HD0.out;have e1:=(hb12.cell (p:=⟨b,off+2*2+1,none⟩) hb).trans HD1.out;simp only[Nat.reduceMul] at e0 e1;go_wp2_with fail
    rw[HPO.out,HK2.out];exact⟨rfl,hb12⟩
 ·rw[show[p,v,r].any (fun f=> !decide f.ok)=true by
   simp only[List.any_cons,List.any_nil,Bool.or_false,Bool.or_eq_true,Bool.not_eq_true',decide_eq_false_iff_not]
   by_cases a1:p.ok
   ·by_cases a2:v.ok
    ·exact .inr (.inr (fun a3=>h1 ⟨a1,a2,a3⟩))
    ·exact .inr (.inl a2)
   ·exact .inl a1] at HC1
  rw[if_neg h1] at HK;clear h1;go_enter Tryz.func39,Tryz.ntmps39
  go_wp2_with fail
  refine HC1.out.mono ?_;rintro e w1 ⟨rfl,hb1⟩;go_wp2_with fail
  rw[HPO.out,HK.out];exact⟨rfl,hb1⟩
end
section
open Go.RowKit Go.Shelf
structure Fr4 (w:World) (p:Nat) (f g h:Fr) (W:World):Prop where
 a:FrB W p f
 b:FrB W (p+1) g
 c:FrB W (p+1+1) h
 d:FrB W (p+1+1+1) Fr.zero
 bl:Below w.1.size w W
 hp:w.1.size<=p
theorem Fr4.here{w:World}{p:Nat}{f g h:Fr}{W W':World}(H:Fr4 w p f g h W)(hb:Below W.1.size W W'):Fr4 w p f g h W':=⟨H.a.here hb,H.b.here hb,H.c.here hb,H.d.here hb,H.bl.trans (hb.mono H.bl.size),H.hp⟩
theorem Fr4.new(w:World)(f g h:Fr):Fr4 w w.1.size f g h ((((w.alloc (.cells #[.string ⟨f.n.toArray⟩,.string ⟨f.d.toArray⟩] 26)).alloc (.cells #[.string ⟨g.n.toArray⟩,.string ⟨g.d.toArray⟩] 26)).alloc (.cells #[.string ⟨h.n.toArray⟩,.string ⟨h.d.toArray⟩] 26)).alloc (.cells #[.string ⟨#[]⟩,.string ⟨#[]⟩] 26)):=by
 refine⟨(((FrB.new w f).alloc _).alloc _).alloc _,?_,?_,?_,((((Below.refl _ _).alloc (Nat.le_refl _) _).alloc (by simp) _).alloc (by simp;omega) _).alloc (by simp;omega) _,Nat.le_refl _⟩
 ·have:=((FrB.new (w.alloc (.cells #[.string ⟨f.n.toArray⟩,.string ⟨f.d.toArray⟩] 26)) g).alloc (.cells #[.string ⟨h.n.toArray⟩,.string ⟨h.d.toArray⟩] 26)).alloc (.cells #[.string ⟨#[]⟩,.string ⟨#[]⟩] 26)
  simp only[World.size_alloc] at this;exact this
 ·have:=(FrB.new ((w.alloc (.cells #[.string ⟨f.n.toArray⟩,.string ⟨f.d.toArray⟩] 26)).alloc (.cells #[.string ⟨g.n.toArray⟩,.string ⟨g.d.toArray⟩] 26)) h).alloc (.cells #[.string ⟨#[]⟩,.string ⟨#[]⟩] 26)
  simp only[World.size_alloc] at this;exact this
 ·have:=FrB.new (((w.alloc (.cells #[.string ⟨f.n.toArray⟩,.string ⟨f.d.toArray⟩] 26)).alloc (.cells #[.string ⟨g.n.toArray⟩,.string ⟨g.d.toArray⟩] 26)).alloc (.cells #[.string ⟨h.n.toArray⟩,.string ⟨h.d.toArray⟩] 26)) Fr.zero
  simp only[World.size_alloc] at this;exact this
theorem Fr4.held{w:World}{p:Nat}{f g h:Fr}{W:World}(H:Fr4 w p f g h W):W.cell? ⟨p,0,none⟩=some (.string ⟨f.n.toArray⟩)/\W.cell? ⟨p,1,none⟩=some (.string ⟨f.d.toArray⟩)/\W.cell? ⟨p+1,0,none⟩=some (.string ⟨g.n.toArray⟩)/\W.cell? ⟨p+1,1,none⟩=some (.string ⟨g.d.toArray⟩)/\W.cell? ⟨p+1+1,0,none⟩=some (.string ⟨h.n.toArray⟩)/\W.cell? ⟨p+1+1,1,none⟩=some (.string ⟨h.d.toArray⟩):=
 ⟨H.a.cells.1,H.a.cells.2,H.b.cells.1,H.b.cells.2,H.c.cells.1,H.c.cells.2⟩
theorem FrB.set2{w:World}{p:Nat}{f:Fr}(h:FrB w p f)(g:Fr):FrB ((w.setCell ⟨p,0,none⟩ (.string ⟨g.n.toArray⟩)).setCell ⟨p,1,none⟩ (.string ⟨g.d.toArray⟩)) p g:=by
 unfold FrB at h ⊢;rw[heap_setCell_same _ p 1 _ 26 _ (heap_setCell_same w p 0 _ 26 _ h)];rfl
theorem Fr4.far2{w:World}{p:Nat}{f g h:Fr}{W:World}(H:Fr4 w p f g h W)(q:Nat)(hq:p+1+1+1<q)(u v:Value):Fr4 w p f g h ((W.setCell ⟨q,0,none⟩ u).setCell ⟨q,1,none⟩ v):=by
 have hp:=H.hp;exact⟨(H.a.far (by simp only;omega) _).far (by simp only;omega) _,(H.b.far (by simp only;omega) _).far (by simp only;omega) _,(H.c.far (by simp only;omega) _).far (by simp only;omega) _,(H.d.far (by simp only;omega) _).far (by simp only;omega) _,(H.bl.setCell (by simp only;omega) _).setCell (by simp only;omega) _,H.hp⟩
def Jp(p v r:Fr):Fr×Int:=if JB p v r=0 then(if p.rat-v.rat*r.rat<0 then(Fr.zero,2) else(Qd (p.rat-v.rat*r.rat),0)) else(Fr.zero,JB p v r)
def Jq(p v r:Fr):Fr×Int:=if JB p v r=0 then Za7 (v.rat*r.rat) (p.rat+v.rat*r.rat) else(Fr.zero,JB p v r)
theorem Zko{f h:Fr}{L:Nat}(hf:f.Sz L)(hh:h.Sz L)(hL:1<=L):(Qd (f.rat*h.rat)).Sz (L+L+1):=QV (ZgI hf hh hL)
theorem ZnZ{f h:Fr}{L:Nat}(hf:f.Sz L)(hh:h.Sz L)(hL:1<=L):(Qd (f.rat+h.rat)).Sz (L+L+1+1):=QV (ZnN hf hh hL)
theorem ZfN(w:World)(p v r:Fr):Frs (w.alloc (.cells #[.string ⟨p.n.toArray⟩,.string ⟨p.d.toArray⟩,.string ⟨v.n.toArray⟩,.string ⟨v.d.toArray⟩,.string ⟨r.n.toArray⟩,.string ⟨r.d.toArray⟩] 26)) (w.1.size+1) (some ⟨w.1.size,0,none⟩) 3 [p,v,r]:=
 Sl.lit w _ 26 [p,v,r] rfl Zby
theorem ZiK(p v r:Fr)(w:World)(hp:Pow w)(hp2:p.Sz 100)(hv:v.Sz 100)(hr:r.Sz 100):Calls Tryz.prog 14 #[Qq p,Qq v,Qq r] w (Xt (Jp p v r) w):=by
 have H4:=jq (Fr4.new w p v r);have HP:=jq hp;obtain⟨x0,x1⟩:=H4.out.a.cells
 obtain⟨y0,y1⟩:=H4.out.b.cells
 obtain⟨z0,z1⟩:=H4.out.c.cells
 have HCK:=jq (fun W A c (hb:Below w.1.size w W) hs=>ZdQ A c p v r W (hp.here hb) (hp2.more (by omega)) (hv.more (by omega)) (hr.more (by omega)) hs);have hgs:(Qd (v.rat*r.rat)).Sz 201:=Zko hv hr (by omega);have HMU:=jq (fun W (hb:Below w.1.size w W)=>Za6 v r W (hp.here hb) (hv.more (by omega)) (hr.more (by omega)));have HSU:=jq (fun W (hb:Below w.1.size w W)=>ZcB p (Qd (v.rat*r.rat)) W (hp.here hb) (hp2.more (by omega)) (hgs.more (by omega)));rw[Qj] at HSU
 have hss:(Qd (p.rat-v.rat*r.rat)).Sz 404:=by
  have:=Zkk (hp2.more (show 100<=201 by omega)) hgs (by omega)
  rwa [Qj] at this
 have HCP:=jq (fun W (hb:Below w.1.size w W)=>Ye (Qd (p.rat-v.rat*r.rat)) Fr.zero W (hp.here hb) (hss.more (by omega)) ⟨by simp[Fr.zero],by simp[Fr.zero]⟩);rw[Qj] at HCP;have HZ:=jq (ZfM (p.rat-v.rat*r.rat));have HPL:=jq (show Jp p v r=if JB p v r=0 then(if p.rat-v.rat*r.rat<0 then(Fr.zero,2) else(Qd (p.rat-v.rat*r.rat),0)) else(Fr.zero,JB p v r) from rfl);have HPO:=jq (show Xt (Jp p v r) w=fun e w'=>e=.returned (.tuple #[Qq (Jp p v r).1,.int .i64 (Jp p v r).2])/\Below w.1.size w w' from rfl);generalize Xt (Jp p v r) w=post at*;generalize Jp p v r=pl at*;generalize JB p v r=ck at*;generalize Qd (v.rat*r.rat)=gv_ at*;generalize hres:Qd (p.rat-v.rat*r.rat)=res at*;generalize p.rat-v.rat*r.rat=q at*;generalize QK q Fr.zero.rat=cq at*;clear hp hp2 hv hr hgs hss hres;unfold Qq at*
 unfold S at*
 go_enter Tryz.func14,Tryz.ntmps14
 go_upto_region 1 with (fail)
 generalize ((((w.alloc (.cells #[.string ⟨p.n.toArray⟩,.string ⟨p.d.toArray⟩] 26)).alloc (.cells #[.string ⟨v.n.toArray⟩,.string ⟨v.d.toArray⟩] 26)).alloc (.cells #[.string ⟨r.n.toArray⟩,.string ⟨r.d.toArray⟩] 26)).alloc (.cells #[.string ⟨#[]⟩,.string ⟨#[]⟩] 26))=W at*;have HSL:=jq (ZfN W p v r);go_wp2_with fail
 refine(HCK.out _ _ _ (H4.out.bl.alloc H4.out.bl.size _) (by have:=HSL.out;simpa using this)).mono ?_;rintro e w1 ⟨rfl,hb1⟩;have hbW1:Below W.1.size W w1:=((Below.refl _ W).alloc (Nat.le_refl _) _).trans (hb1.mono (by simp));have H5:=jq (H4.out.here hbW1);clear x0 x1 y0 y1 z0 z1 hb1 HSL;obtain⟨x0,x1⟩:=H5.out.a.cells
 obtain⟨y0,y1⟩:=H5.out.b.cells
 obtain⟨z0,z1⟩:=H5.out.c.cells
 by_cases hck:ck=0
 ·rw[if_pos hck] at HPL;subst hck;go_upto_region 4 with (fail)
  go_cut [9] (fun s wc=>∃q9,s=.pointer (some ⟨q9,0,none⟩)/\Hid (FrB wc q9 res)/\Hid (Fr4 w w.1.size p v r wc))
  case first=>
   go_region_held3 (fun w'=>w'.cell? ⟨w.1.size,0,none⟩=some (.string ⟨p.n.toArray⟩)/\w'.cell? ⟨w.1.size,1,none⟩=some (.string ⟨p.d.toArray⟩)/\w'.cell? ⟨w.1.size+1,0,none⟩=some (.string ⟨v.n.toArray⟩)/\w'.cell? ⟨w.1.size+1,1,none⟩=some (.string ⟨v.d.toArray⟩)/\w'.cell? ⟨w.1.size+1+1,0,none⟩=some (.string ⟨r.n.toArray⟩)/\w'.cell? ⟨w.1.size+1+1,1,none⟩=some (.string ⟨r.d.toArray⟩))
    (first
      |exact((H5.out.here hz2).far2 _ hq9 _ _).held
      |exact((H5.out.here hz2).here ((Below.refl _ _).alloc (Nat.le_refl _) _)).held
      |exact(H5.out.here hz2).held
      |exact((H5.out.here hz).here ((Below.refl _ _).alloc (Nat.le_refl _) _)).held
      |exact(H5.out.here hz).held
      |go_keep)
    (first
      |(go_at_call 24;refine(HMU.out _ (by first|exact(H5.out.here (Below.refl _ w1).drew).bl|exact(H5.out.here ((Below.refl _ w1).alloc (Nat.le_refl _) _).drew).bl)).mono ?_;rintro e w2 ⟨rfl,hb2⟩;unfold Qq S
        have hz:Below w1.1.size w1 w2:=by first|exact(Below.refl _ w1).drew.trans hb2|exact((Below.refl _ w1).alloc (Nat.le_refl _) _).drew.trans (hb2.mono (by simp))
        first|(have hq1:FrB w2 w1.1.size Fr.zero:=FrB.here (w:=(w1.alloc (.cells #[.string ⟨#[]⟩,.string ⟨#[]⟩] 26)).drew) (FrB.new w1 Fr.zero) hb2)|skip)
      |(go_at_call 40;refine(HSU.out _ (by first|exact(H5.out.here hz).bl|exact((H5.out.here hz).here ((Below.refl _ _).alloc (Nat.le_refl _) _)).bl)).mono ?_;rintro e w3 ⟨rfl,hb3⟩;unfold Qq S
        have hz2:Below w1.1.size w1 w3:=by first|exact hz.trans (hb3.mono hz.size)|exact(hz.alloc hz.size _).trans (hb3.mono (by have:=hz.size;simp;omega))
        first
         |(have hq2:FrB w3 w1.1.size Fr.zero:=hq1.here hb3;have n0:=hq2.cells.1;have n1:=hq2.cells.2;have g0:=hq2.frozen 0;have g1:=hq2.frozen 1;have hq9:w.1.size+1+1+1<w1.1.size:=H5.out.d.lt)
         |(have hq2:FrB w3 w2.1.size Fr.zero:=FrB.here (w:=w2.alloc (.cells #[.string ⟨#[]⟩,.string ⟨#[]⟩] 26)) (FrB.new w2 Fr.zero) hb3;have n0:=hq2.cells.1;have n1:=hq2.cells.2;have g0:=hq2.frozen 0;have g1:=hq2.frozen 1;have hq9:w.1.size+1+1+1<w2.1.size:=(H5.out.here hz).d.lt)
         |skip))
   all_goals
    go_wp2_with fail
    go_meet
    first
     |exact⟨_,rfl,hq2.set2 res,(H5.out.here hz2).far2 _ hq9 _ _⟩
     |exact⟨_,rfl,FrB.new w3 res,(H5.out.here hz2).here ((Below.refl _ _).alloc (Nat.le_refl _) _)⟩
  case rest=>
  clear x0 x1 y0 y1 z0 z1;obtain⟨q9,rfl,HB9,H6⟩:=hcut
  obtain⟨w4,rfl⟩:∃W,W=wc:=⟨_,rfl⟩
  obtain⟨n0,n1⟩:=HB9.out.cells
  go_wp2_with fail
  refine(HCP.out _ H6.out.bl).mono ?_;rintro e w5 ⟨rfl,hb5⟩;have H7:=jq (H6.out.here hb5);have HB7:=jq (HB9.out.here hb5);have f0:=H7.out.d.frozen 0;have f1:=H7.out.d.frozen 1;obtain⟨t0,t1⟩:=H7.out.d.cells
  clear n0 n1;obtain⟨n0,n1⟩:=HB7.out.cells
  by_cases hq0:q<0
  ·rw[if_pos hq0] at HPL;have hd:decide (cq<0)=true:=by rw[HZ.out];simpa using hq0
   clear hq0 HZ;go_wp2_with fail
   refine bodyPost_ret (v:=.tuple #[.agg #[.string ⟨#[]⟩,.string ⟨#[]⟩],.int .i64 2]) (by simp[results,Tryz.results14,go_sem,t0,t1]) rfl ?_;rw[HPO.out,HPL.out];exact⟨rfl,(H7.out.bl.setCell (p:=⟨w.1.size+1+1+1,0,none⟩) (by simp only;omega) _).setCell (p:=⟨w.1.size+1+1+1,1,none⟩) (by simp only;omega) _⟩
  ·rw[if_neg hq0] at HPL;have hd:decide (cq<0)=false:=by rw[HZ.out];simpa using hq0
   clear hq0 HZ;go_wp2_with fail
   refine bodyPost_ret (v:=.tuple #[.agg #[.string ⟨res.n.toArray⟩,.string ⟨res.d.toArray⟩],.int .i64 0]) (by simp[results,Tryz.results14,go_sem,t0,t1]) rfl ?_;rw[HPO.out,HPL.out];exact⟨rfl,(H7.out.bl.setCell (p:=⟨w.1.size+1+1+1,0,none⟩) (by simp only;omega) _).setCell (p:=⟨w.1.size+1+1+1,1,none⟩) (by simp only;omega) _⟩
 ·rw[if_neg hck] at HPL;have hckb:(ck !=0)=true:=by simpa using hck
  have f0:=H5.out.d.frozen 0;have f1:=H5.out.d.frozen 1;obtain⟨t0,t1⟩:=H5.out.d.cells
  clear hck;go_wp2_with fail
  refine bodyPost_ret (v:=.tuple #[.agg #[.string ⟨#[]⟩,.string ⟨#[]⟩],.int .i64 ck]) (by simp[results,Tryz.results14,go_sem,t0,t1]) rfl ?_;rw[HPO.out,HPL.out];exact⟨rfl,(H5.out.bl.setCell (p:=⟨w.1.size+1+1+1,0,none⟩) (by simp only;omega) _).setCell (p:=⟨w.1.size+1+1+1,1,none⟩) (by simp only;omega) _⟩
end
section
open Go.RowKit Go.Shelf
theorem ZiL(x y:Rat):(y=0/\Za7 x y=(Fr.zero,10))\/(y≠0/\Za7 x y=(Qd (x/y),0)):=by
 unfold Za7
 by_cases h:y=0
 ·exact .inl ⟨h,if_pos h⟩
 ·exact .inr ⟨h,if_neg h⟩
theorem ZiM(p v r:Fr)(w:World)(hp:Pow w)(hp2:p.Sz 100)(hv:v.Sz 100)(hr:r.Sz 100):Calls Tryz.prog 15 #[Qq p,Qq v,Qq r] w (Xt (Jq p v r) w):=by
 have H4:=jq (Fr4.new w p v r);have HP:=jq hp;obtain⟨x0,x1⟩:=H4.out.a.cells
 obtain⟨y0,y1⟩:=H4.out.b.cells
 obtain⟨z0,z1⟩:=H4.out.c.cells
 have HCK:=jq (fun W A c (hb:Below w.1.size w W) hs=>ZdQ A c p v r W (hp.here hb) (hp2.more (by omega)) (hv.more (by omega)) (hr.more (by omega)) hs);have hgs:(Qd (v.rat*r.rat)).Sz 201:=Zko hv hr (by omega);have HMU:=jq (fun W (hb:Below w.1.size w W)=>Za6 v r W (hp.here hb) (hv.more (by omega)) (hr.more (by omega)));have HAD:=jq (fun W (hb:Below w.1.size w W)=>Zkj p (Qd (v.rat*r.rat)) W (hp.here hb) (hp2.more (by omega)) (hgs.more (by omega)));rw[Qj] at HAD
 have hss:(Qd (p.rat+v.rat*r.rat)).Sz 404:=by
  have:=ZnZ (hp2.more (show 100<=201 by omega)) hgs (by omega)
  rwa [Qj] at this
 have HQU:=jq (fun W (hb:Below w.1.size w W)=>Zkn (Qd (v.rat*r.rat)) (Qd (p.rat+v.rat*r.rat)) W (hp.here hb) (hgs.more (by omega)) (hss.more (by omega)));rw[Qj,Qj] at HQU;have HQC:=jq (ZiL (v.rat*r.rat) (p.rat+v.rat*r.rat));have HPL:=jq (show Jq p v r=if JB p v r=0 then Za7 (v.rat*r.rat) (p.rat+v.rat*r.rat) else(Fr.zero,JB p v r) from rfl);have HPO:=jq (show Xt (Jq p v r) w=fun e w'=>e=.returned (.tuple #[Qq (Jq p v r).1,.int .i64 (Jq p v r).2])/\Below w.1.size w w' from rfl);generalize Xt (Jq p v r) w=post at*;generalize Jq p v r=pl at*;generalize JB p v r=ck at*;generalize Qd (v.rat*r.rat)=gv_ at*;generalize Qd (p.rat+v.rat*r.rat)=sm at*;generalize hqq:Za7 (v.rat*r.rat) (p.rat+v.rat*r.rat)=qq at*;obtain⟨res,qe⟩:=qq
 have HQE:=jq (show(qe=0)\/(qe=10/\res=Fr.zero) by
  rcases HQC.out with ⟨_,h⟩|⟨_,h⟩
  ·injection h with h1 h2;exact .inr ⟨h2,h1⟩
  ·injection h with h1 h2;exact .inl h2)
 clear hp hp2 hv hr hgs hss hqq HQC;unfold Qq at*
 unfold S at*
 go_enter Tryz.func15,Tryz.ntmps15
 go_upto_region 1 with (fail)
 generalize ((((w.alloc (.cells #[.string ⟨p.n.toArray⟩,.string ⟨p.d.toArray⟩] 26)).alloc (.cells #[.string ⟨v.n.toArray⟩,.string ⟨v.d.toArray⟩] 26)).alloc (.cells #[.string ⟨r.n.toArray⟩,.string ⟨r.d.toArray⟩] 26)).alloc (.cells #[.string ⟨#[]⟩,.string ⟨#[]⟩] 26))=W at*;have HSL:=jq (ZfN W p v r);go_wp2_with fail
 refine(HCK.out _ _ _ (H4.out.bl.alloc H4.out.bl.size _) (by have:=HSL.out;simpa using this)).mono ?_;rintro e w1 ⟨rfl,hb1⟩;have hbW1:Below W.1.size W w1:=((Below.refl _ W).alloc (Nat.le_refl _) _).trans (hb1.mono (by simp));have H5:=jq (H4.out.here hbW1);clear x0 x1 y0 y1 z0 z1 hb1 HSL;obtain⟨x0,x1⟩:=H5.out.a.cells
 obtain⟨y0,y1⟩:=H5.out.b.cells
 obtain⟨z0,z1⟩:=H5.out.c.cells
 by_cases hck:ck=0
 ·rw[if_pos hck] at HPL;subst hck;go_wp2_with fail
  refine(HMU.out _ H5.out.bl).mono ?_;rintro e w2 ⟨rfl,hb2⟩;unfold Qq S;go_upto_region 5 with (fail)
  have hbA:=(Below.refl w2.1.size w2).alloc (Nat.le_refl _) (.cells #[.string ⟨gv_.n.toArray⟩,.string ⟨gv_.d.toArray⟩] 26);have H6:=jq ((H5.out.here hb2).here hbA);have HG6:=jq (FrB.new w2 gv_);have hlt:w.1.size+1+1+1<w2.1.size:=(H5.out.here hb2).d.lt;generalize w2.alloc _=W3 at*;clear x0 x1 y0 y1 z0 z1 hb2 hbA;obtain⟨x0,x1⟩:=H6.out.a.cells
  obtain⟨y0,y1⟩:=HG6.out.cells
  go_cut [10,11] (fun s t wc=>∃q9,s=.pointer (some ⟨q9,0,none⟩)/\t=.int .i64 qe/\Hid (FrB wc q9 res)/\Hid (Fr4 w w.1.size p v r wc))
  case first=>
   go_region_held3 (fun w'=>w'.cell? ⟨w.1.size,0,none⟩=some (.string ⟨p.n.toArray⟩)/\w'.cell? ⟨w.1.size,1,none⟩=some (.string ⟨p.d.toArray⟩)/\w'.cell? ⟨w2.1.size,0,none⟩=some (.string ⟨gv_.n.toArray⟩)/\w'.cell? ⟨w2.1.size,1,none⟩=some (.string ⟨gv_.d.toArray⟩))
    (first
      |exact⟨((H6.out.here hz2).far2 _ hq9 _ _).a.cells.1,((H6.out.here hz2).far2 _ hq9 _ _).a.cells.2,(((HG6.out.here hz2).far hq8 _).far hq8 _).cells.1,(((HG6.out.here hz2).far hq8 _).far hq8 _).cells.2⟩
      |exact⟨((H6.out.here hz2).here ((Below.refl _ _).alloc (Nat.le_refl _) _)).a.cells.1,((H6.out.here hz2).here ((Below.refl _ _).alloc (Nat.le_refl _) _)).a.cells.2,((HG6.out.here hz2).here ((Below.refl _ _).alloc (Nat.le_refl _) _)).cells.1,((HG6.out.here hz2).here ((Below.refl _ _).alloc (Nat.le_refl _) _)).cells.2⟩
      |exact⟨(H6.out.here hz2).a.cells.1,(H6.out.here hz2).a.cells.2,(HG6.out.here hz2).cells.1,(HG6.out.here hz2).cells.2⟩
      |exact⟨((H6.out.here hz).here ((Below.refl _ _).alloc (Nat.le_refl _) _)).a.cells.1,((H6.out.here hz).here ((Below.refl _ _).alloc (Nat.le_refl _) _)).a.cells.2,((HG6.out.here hz).here ((Below.refl _ _).alloc (Nat.le_refl _) _)).cells.1,((HG6.out.here hz).here ((Below.refl _ _).alloc (Nat.le_refl _) _)).cells.2⟩
      |exact⟨(H6.out.here hz).a.cells.1,(H6.out.here hz).a.cells.2,(HG6.out.here hz).cells.1,(HG6.out.here hz).cells.2⟩
      |go_keep)
    (first
      |(go_at_call 43;refine(HAD.out _ (by first|exact(H6.out.here (Below.refl _ W3).drew).bl|exact(H6.out.here ((Below.refl _ W3).alloc (Nat.le_refl _) _).drew).bl)).mono ?_;rintro e w4 ⟨rfl,hb4⟩;unfold Qq S
        have hz:Below W3.1.size W3 w4:=by first|exact(Below.refl _ W3).drew.trans hb4|exact((Below.refl _ W3).alloc (Nat.le_refl _) _).drew.trans (hb4.mono (by simp))
        first|(have hq1:FrB w4 W3.1.size Fr.zero:=FrB.here (w:=(W3.alloc (.cells #[.string ⟨#[]⟩,.string ⟨#[]⟩] 26)).drew) (FrB.new W3 Fr.zero) hb4)|skip)
      |(go_at_call 42;refine(HQU.out _ (by first|exact(H6.out.here hz).bl|exact((H6.out.here hz).here ((Below.refl _ _).alloc (Nat.le_refl _) _)).bl)).mono ?_;rintro e w5 ⟨rfl,hb5⟩;unfold Qq S
        have hz2:Below W3.1.size W3 w5:=by first|exact hz.trans (hb5.mono hz.size)|exact(hz.alloc hz.size _).trans (hb5.mono (by have:=hz.size;simp;omega))
        first
         |(have hq2:FrB w5 W3.1.size Fr.zero:=hq1.here hb5;have n0:=hq2.cells.1;have n1:=hq2.cells.2;have g0:=hq2.frozen 0;have g1:=hq2.frozen 1;have hq9:w.1.size+1+1+1<W3.1.size:=H6.out.d.lt;have hq8:w2.1.size≠W3.1.size:=by have:=HG6.out.lt;omega)
         |(have hq2:FrB w5 w4.1.size Fr.zero:=FrB.here (w:=w4.alloc (.cells #[.string ⟨#[]⟩,.string ⟨#[]⟩] 26)) (FrB.new w4 Fr.zero) hb5;have n0:=hq2.cells.1;have n1:=hq2.cells.2;have g0:=hq2.frozen 0;have g1:=hq2.frozen 1;have hq9:w.1.size+1+1+1<w4.1.size:=(H6.out.here hz).d.lt;have hq8:w2.1.size≠w4.1.size:=by have:=(HG6.out.here hz).lt;omega)
         |skip))
   all_goals
    go_wp2_with fail
    go_meet
    first
     |exact⟨_,rfl,rfl,hq2.set2 res,(H6.out.here hz2).far2 _ hq9 _ _⟩
     |exact⟨_,rfl,rfl,FrB.new w5 res,(H6.out.here hz2).here ((Below.refl _ _).alloc (Nat.le_refl _) _)⟩
  case rest=>
  clear x0 x1 y0 y1;obtain⟨q9,rfl,rfl,HB9,H7⟩:=hcut
  obtain⟨w6,rfl⟩:∃W,W=wc:=⟨_,rfl⟩
  obtain⟨n0,n1⟩:=HB9.out.cells
  have f0:=H7.out.d.frozen 0;have f1:=H7.out.d.frozen 1;obtain⟨t0,t1⟩:=H7.out.d.cells
  rcases HQE.out with hq0|⟨hq0,hz0⟩
  ·subst hq0;go_wp2_with fail
   refine bodyPost_ret (v:=.tuple #[.agg #[.string ⟨res.n.toArray⟩,.string ⟨res.d.toArray⟩],.int .i64 0]) (by simp[results,Tryz.results15,go_sem,t0,t1]) rfl ?_;rw[HPO.out,HPL.out];exact⟨rfl,(H7.out.bl.setCell (p:=⟨w.1.size+1+1+1,0,none⟩) (by simp only;omega) _).setCell (p:=⟨w.1.size+1+1+1,1,none⟩) (by simp only;omega) _⟩
  ·subst hq0;subst hz0
   go_wp2_with fail
   refine bodyPost_ret (v:=.tuple #[.agg #[.string ⟨#[]⟩,.string ⟨#[]⟩],.int .i64 10]) (by simp[results,Tryz.results15,go_sem,t0,t1]) rfl ?_;rw[HPO.out,HPL.out];exact⟨rfl,(H7.out.bl.setCell (p:=⟨w.1.size+1+1+1,0,none⟩) (by simp only;omega) _).setCell (p:=⟨w.1.size+1+1+1,1,none⟩) (by simp only;omega) _⟩
 ·rw[if_neg hck] at HPL;have hckb:(ck !=0)=true:=by simpa using hck
  have f0:=H5.out.d.frozen 0;have f1:=H5.out.d.frozen 1;obtain⟨t0,t1⟩:=H5.out.d.cells
  clear hck;go_wp2_with fail
  refine bodyPost_ret (v:=.tuple #[.agg #[.string ⟨#[]⟩,.string ⟨#[]⟩],.int .i64 ck]) (by simp[results,Tryz.results15,go_sem,t0,t1]) rfl ?_;rw[HPO.out,HPL.out];exact⟨rfl,(H5.out.bl.setCell (p:=⟨w.1.size+1+1+1,0,none⟩) (by simp only;omega) _).setCell (p:=⟨w.1.size+1+1+1,1,none⟩) (by simp only;omega) _⟩
end
section
open Go.RowKit Go.Shelf
theorem ZcC{n:Nat}{l:List UInt8}(h1:l.all Qr=true)(h2:∀b t,l=b::t->(b==48)=false)(h3:Ql l=n):Qa (n:Int)=l:=by
 rw[VT,<-h3,VV h1 h2]
theorem Zg5{n:Nat}{l:List UInt8}(h1:l.all Qr=true)(h2:∀b t,l=b::t->(b==48)=false)(h3:Ql l=n):Qd (n:Rat)=⟨l,[]⟩:=by
 unfold Qd;simp only[Rat.num_natCast,Rat.den_natCast,if_true];rw[ZcC h1 h2 h3]
theorem ZcD{b:UInt8}{t:List UInt8}(h:(b==48)=false):∀c u,b::t=c::u->(c==48)=false:=fun c u e=>by injection e with e1 _;rw[<-e1];exact h
theorem Zpa:Qd 100=⟨[49,48,48],[]⟩:=Zg5 (n:=100) (by decide) (ZcD (by decide)) (by decide)
theorem f30:Qd 30=⟨[51,48],[]⟩:=Zg5 (n:=30) (by decide) (ZcD (by decide)) (by decide)
theorem f85:Qd 85=⟨[56,53],[]⟩:=Zg5 (n:=85) (by decide) (ZcD (by decide)) (by decide)
theorem ZnG:Qd (1/2)=⟨[49],[50]⟩:=by
 have h1:((1:Rat)/2).num=((1:Nat):Int):=by decide+kernel
 have h2:((1:Rat)/2).den=2:=by decide+kernel
 unfold Qd;rw[h1,h2,if_neg (by omega),ZcC (l:=[49]) (by decide) (ZcD (by decide)) (by decide),ZcC (l:=[50]) (by decide) (ZcD (by decide)) (by decide)]
theorem Zpb:Qd (3/20)=⟨[51],[50,48]⟩:=by
 have h1:((3:Rat)/20).num=((3:Nat):Int):=by decide+kernel
 have h2:((3:Rat)/20).den=20:=by decide+kernel
 unfold Qd;rw[h1,h2,if_neg (by omega),ZcC (l:=[51]) (by decide) (ZcD (by decide)) (by decide),ZcC (l:=[50,48]) (by decide) (ZcD (by decide)) (by decide)]
theorem Zkp{a b c:Rat}(ha:0<=a)(hb:0<=b)(hc:0<c):JB (Qd a) (Qd b) (Qd c)=0:=by
 unfold JB;rw[if_pos ⟨Zen _,Zen _,Zen _⟩,if_neg];rw[Qj,Qj,Qj,Zdm];rintro(h|h|h|h)
 ·exact Rat.not_le.2 h ha
 ·exact Rat.not_le.2 h hb
 ·exact Rat.not_le.2 h (Rat.le_of_lt hc)
 ·rw[h] at hc;exact Rat.lt_irrefl hc
theorem Zkq:Jp ⟨[49,48,48],[]⟩ ⟨[51,48],[]⟩ ⟨[49],[50]⟩=(⟨[56,53],[]⟩,0):=by
 rw[<-Zpa,<-f30,<-ZnG,<-f85];unfold Jp;rw[if_pos (Zkp (by decide+kernel) (by decide+kernel) (by decide+kernel)),Qj,Qj,Qj,show(100:Rat)-30*(1/2)=85 by decide+kernel,if_neg (by decide+kernel)]
theorem Zkr:Jq ⟨[56,53],[]⟩ ⟨[51,48],[]⟩ ⟨[49],[50]⟩=(⟨[51],[50,48]⟩,0):=by
 rw[<-f85,<-f30,<-ZnG,<-Zpb];unfold Jq;rw[if_pos (Zkp (by decide+kernel) (by decide+kernel) (by decide+kernel)),Qj,Qj,Qj];unfold Za7;rw[if_neg (by decide+kernel),show(30:Rat)*(1/2)/(85+30*(1/2))=3/20 by decide+kernel]
theorem ZiN(w:World)(hp:Pow w):Calls Tryz.prog 5 #[] w fun e w'=>e=.returned (.bool true)/\Below w.1.size w w':=by
 have HPR:=jq (ZiK ⟨[49,48,48],[]⟩ ⟨[51,48],[]⟩ ⟨[49],[50]⟩ w hp ⟨by simp,by simp⟩ ⟨by simp,by simp⟩ ⟨by simp,by simp⟩);have HSH:=jq (fun W hp=>ZiM ⟨[56,53],[]⟩ ⟨[51,48],[]⟩ ⟨[49],[50]⟩ W hp ⟨by simp,by simp⟩ ⟨by simp,by simp⟩ ⟨by simp,by simp⟩);rw[Zkq] at HPR;rw[Zkr] at HSH;have HP:=jq hp;clear hp;unfold Qq at*
 unfold S at*
 go_enter Tryz.func5,Tryz.ntmps5
 go_wp2_with fail
 refine HPR.out.mono ?_;rintro e w1 ⟨rfl,hb1⟩;unfold Qq S;have hbA:=(Below.refl w1.1.size w1).alloc (Nat.le_refl _) (.cells #[.string ⟨#[56,53]⟩,.string ⟨#[]⟩] 26);have HB1:=jq (show FrB (w1.alloc (.cells #[.string ⟨#[56,53]⟩,.string ⟨#[]⟩] 26)) w1.1.size ⟨[56,53],[]⟩ from FrB.new w1 ⟨[56,53],[]⟩);have hb0A:=hb1.trans (hbA.mono hb1.size);go_wp2_with fail
 generalize w1.alloc _=W at*;refine(HSH.out W (HP.out.here hb0A)).mono ?_;rintro e w2 ⟨rfl,hb2⟩;unfold Qq S;have HB2:=jq (HB1.out.here hb2);obtain⟨x0,x1⟩:=HB2.out.cells
 have hlt:w1.1.size<w2.1.size:=HB2.out.lt;have hne:w1.1.size≠w2.1.size:=by omega
 have hb02:=hb0A.trans (hb2.mono hb0A.size);go_wp2_with fail
 go_ret
 exact⟨rfl,hb02.alloc hb02.size _⟩
theorem ZiO(f:Fr)(w:World)(_h1:f.n.length<=maxLen)(_h2:f.d.length<=maxLen):Calls Tryz.prog 38 #[Qq f] w fun e w'=>e=.returned (.bool (decide (10<f.n.length\/10<f.d.length)))/\Below w.1.size w w':=by
 obtain⟨x0,x1⟩:=(FrB.new w f).cells
 have hbA:Below w.1.size w (w.alloc (.cells #[.string ⟨f.n.toArray⟩,.string ⟨f.d.toArray⟩] 26)):=(Below.refl _ _).alloc (Nat.le_refl _) _;have HBA:=jq hbA;clear hbA _h1 _h2;unfold Qq S
 by_cases ha:10<f.n.length
 ·have HD:=jq (show decide (10<f.n.length\/10<f.d.length)=true by simp[ha]);go_enter Tryz.func38,Tryz.ntmps38
  go_wp2_with fail
  go_ret
  exact⟨rfl,HBA.out⟩
 ·have hdec:decide (10<f.n.length)=false:=by simpa using ha
  have HD:=jq (show decide (10<f.d.length)=decide (10<f.n.length\/10<f.d.length) by simp[ha]);go_enter Tryz.func38,Tryz.ntmps38
  go_wp2_with fail
  go_ret
  refine⟨?_,HBA.out⟩;rw[<-HD.out];simp
  rw[Bool.eq_iff_iff];simp
  omega
end
section
open Go.RowKit Go.Shelf
def YP(f:Fr):Bool:=decide (10<f.n.length\/10<f.d.length)
theorem Zks(A:Option Addr)(c:Nat)(p v r:Fr)(w:World)(hs:Frs w w.1.size A 3 [p,v,r])(hl:∀x∈[p,v,r],x.n.length<=maxLen/\x.d.length<=maxLen):
 Calls Tryz.prog 13 #[.slice A 3 c] w fun e w'=>e=.returned (.bool (YP p||YP v||YP r))/\Below w.1.size w w':=by
 have HC:=jq (VN 38 YP A 3 c [p,v,r] w (enters_of Tryz.func38 (by kernel_rfl) rfl) (fun W x hx hb=>ZiO x W (hl x hx).1 (hl x hx).2) hs (by omega));rw[show[p,v,r].any YP=(YP p||YP v||YP r) by simp[Bool.or_assoc]] at HC;generalize (YP p||YP v||YP r)=bb at*;clear hs hl;go_enter Tryz.func13,Tryz.ntmps13
 go_wp2_with fail
 refine HC.out.mono ?_;rintro e w1 ⟨rfl,hb1⟩;go_wp2_with fail
 go_ret
 exact⟨rfl,hb1⟩
structure FrT (w:World) (p:Nat) (f g h:Fr) (W:World):Prop where
 a:FrB W p f
 b:FrB W (p+1) g
 c:FrB W (p+1+1) h
 bl:Below w.1.size w W
 hp:w.1.size<=p
theorem FrT.here{w:World}{p:Nat}{f g h:Fr}{W W':World}(H:FrT w p f g h W)(hb:Below W.1.size W W'):FrT w p f g h W':=⟨H.a.here hb,H.b.here hb,H.c.here hb,H.bl.trans (hb.mono H.bl.size),H.hp⟩
theorem FrT.new(w:World)(f g h:Fr):FrT w w.1.size f g h (((w.alloc (.cells #[.string ⟨f.n.toArray⟩,.string ⟨f.d.toArray⟩] 26)).alloc (.cells #[.string ⟨g.n.toArray⟩,.string ⟨g.d.toArray⟩] 26)).alloc (.cells #[.string ⟨h.n.toArray⟩,.string ⟨h.d.toArray⟩] 26)):=by
 refine⟨((FrB.new w f).alloc _).alloc _,?_,?_,(((Below.refl _ _).alloc (Nat.le_refl _) _).alloc (by simp) _).alloc (by simp;omega) _,Nat.le_refl _⟩
 ·have:=(FrB.new (w.alloc (.cells #[.string ⟨f.n.toArray⟩,.string ⟨f.d.toArray⟩] 26)) g).alloc (.cells #[.string ⟨h.n.toArray⟩,.string ⟨h.d.toArray⟩] 26)
  simp only[World.size_alloc] at this;exact this
 ·have:=FrB.new ((w.alloc (.cells #[.string ⟨f.n.toArray⟩,.string ⟨f.d.toArray⟩] 26)).alloc (.cells #[.string ⟨g.n.toArray⟩,.string ⟨g.d.toArray⟩] 26)) h
  simp only[World.size_alloc] at this;exact this
end
section
theorem ZjK(f:Fr):(decide f.ok=true/\Vb f=0)\/(decide f.ok=false/\Vb f=1):=by
 unfold Vb
 by_cases h:f.ok
 ·exact .inl ⟨decide_eq_true h,if_pos h⟩
 ·exact .inr ⟨decide_eq_false h,if_neg h⟩
end
section
open Go.RowKit Go.Shelf
theorem Znw(x y:Rat):decide (QK x y<=0)=decide (x<=y):=by
 unfold QK;rw[Bool.eq_iff_iff,decide_eq_true_eq,decide_eq_true_eq]
 by_cases h1:x<y
 ·simp only[if_pos h1];exact⟨fun _=>Rat.le_of_lt h1,fun _=>by decide⟩
 ·rw[if_neg h1]
  by_cases h2:y<x
  ·rw[if_pos h2];exact⟨fun h=>absurd h (by decide),fun h=>absurd h2 (Rat.not_lt.2 h)⟩
  ·rw[if_neg h2];exact⟨fun _=>Rat.not_lt.1 h2,fun _=>by decide⟩
theorem Znx(x y:Rat):decide (QK x y<0)=decide (x<y):=by
 unfold QK
 by_cases h:x<y
 ·simp[h]
 ·rw[if_neg h];simp only[h,decide_false,decide_eq_false_iff_not]
  split<;>decide
theorem Zny(x y:Rat):decide (0<QK x y)=decide (y<x):=by
 unfold QK
 by_cases h:x<y
 ·rw[if_pos h];have:¬y<x:=Rat.not_lt.2 (Rat.le_of_lt h)
  simp[this]
 ·rw[if_neg h]
  by_cases h2:y<x<;>simp[h2]
end
end Go.Proofs.YtkddgeclncafoaaGreatDoor
