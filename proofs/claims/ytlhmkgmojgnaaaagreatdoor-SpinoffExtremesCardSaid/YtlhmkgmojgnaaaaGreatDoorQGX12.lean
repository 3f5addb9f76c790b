/- Fp6, Cf, FpQ, Sp1, Sp2. -/
import Derived.Test.YtlhmkgmojgnaaaaGreatDoorQGX9
set_option maxRecDepth 20000
set_option maxHeartbeats 1000000
namespace Go.Proofs.YtlhmkgmojgnaaaaGreatDoor
open Go.Lib renaming hid→jq
open Go.RowKit Go.Shelf
section
def XO(r:Fr×Int)(w:World)(e:Ending)(w':World):Prop:=e=.returned (.tuple #[QA r.1,.int .i64 r.2])/\Below w.1.size w w'
def Jc(x y:Rat):Fr×Int:=if y=0 then(Fr.zero,10) else(Qh (x/y),0)
theorem Zgn(n:Int):(QC n==0)=decide (n=0):=by
 unfold QC;rw[Bool.eq_iff_iff];simp
 (repeat' split)<;>omega
theorem Zgo{f h:Fr}{L:Nat}(hf:f.Sz L)(hh:h.Sz L)(hL:1<=L):(Qh (f.rat-h.rat)).Sz (L+L+1+1):=YB (ZiQ hf hh hL)
theorem XP(f h:Fr)(w:World)(hp:Pow w)(hf:f.Sz 20000)(hh:h.Sz 20000):Calls Tryz.prog 29 #[QA f,QA h] w (Qt (YW f.rat h.rat) w):=by
 have HSU:=jq (fun W hp=>Zc3 f h W hp hf hh)
 have hsz:(Qh (f.rat-h.rat)).Sz 40002:=by
  obtain⟨K,hKe⟩:∃K:Nat,K=20000:=⟨_,rfl⟩
  rw[<-hKe] at hf hh;have:=Zgo hf hh (by omega)
  rw[hKe] at this;exact this
 have HCR:=jq (show YW f.rat h.rat=QC (val (Qh (f.rat-h.rat)).n-val []) by
  rw[Zf1,Yg,Int.sub_zero];unfold Qh;simp only[Qd])
 have HPO:=jq (show Qt (YW f.rat h.rat) w=fun e w'=>e=.returned (.int .i64 (YW f.rat h.rat))/\Below w.1.size w w' from rfl);generalize Qt (YW f.rat h.rat) w=post at*;rw[HCR.out] at HPO;generalize Qh (f.rat-h.rat)=r at*;have HPA:=jq (fun W=>Yy r W (by have:=hsz.2;omega));have HCM:=jq (fun W=>Qy r.n [] W (by have:=hsz.1;omega) (by simp));have HP:=jq hp;have hB1:FrB ((w.alloc (.cells #[.string ⟨f.n.toArray⟩,.string ⟨f.d.toArray⟩] 26)).alloc (.cells #[.string ⟨h.n.toArray⟩,.string ⟨h.d.toArray⟩] 26)) w.1.size f:=(FrB.new w f).alloc _
 have hB2:FrB ((w.alloc (.cells #[.string ⟨f.n.toArray⟩,.string ⟨f.d.toArray⟩] 26)).alloc (.cells #[.string ⟨h.n.toArray⟩,.string ⟨h.d.toArray⟩] 26)) (w.1.size+1) h:=by
  have:=FrB.new (w.alloc (.cells #[.string ⟨f.n.toArray⟩,.string ⟨f.d.toArray⟩] 26)) h
  simp only[World.size_alloc] at this;exact this
 have hbA:Below w.1.size w ((w.alloc (.cells #[.string ⟨f.n.toArray⟩,.string ⟨f.d.toArray⟩] 26)).alloc (.cells #[.string ⟨h.n.toArray⟩,.string ⟨h.d.toArray⟩] 26)):=((Below.refl _ _).alloc (Nat.le_refl _) _).alloc (by simp) _;obtain⟨x0,x1⟩:=hB1.cells
 obtain⟨y0,y1⟩:=hB2.cells
 have HBA:=jq hbA;clear hp hf hh hsz HCR hB1 hB2 hbA;unfold QA at*
 unfold S at*
 go_enter Tryz.func29,Tryz.ntmps29
 go_wp2_with fail
 generalize (w.alloc (.cells #[.string ⟨f.n.toArray⟩,.string ⟨f.d.toArray⟩] 26)).alloc (.cells #[.string ⟨h.n.toArray⟩,.string ⟨h.d.toArray⟩] 26)=W at*;refine(HSU.out W (HP.out.here HBA.out)).mono ?_;rintro e w1 ⟨rfl,hb1⟩;unfold QA S;have hb01:=HBA.out.trans (hb1.mono HBA.out.size);go_wp2_with fail
 refine(HPA.out w1).mono ?_;rintro e w2 ⟨rfl,hb2⟩;unfold S;have hb02:=hb01.trans (hb2.mono hb01.size);go_wp2_with fail
 refine(HCM.out w2).mono ?_;rintro e w3 ⟨rfl,hb3⟩;have hb03:=hb02.trans (hb3.mono hb02.size);go_wp2_with fail
 rw[HPO.out];exact⟨rfl,hb03⟩
theorem Zcf(a:List UInt8)(w:World)(hp:Pow w)(ha:a.length<=50000):Calls Tryz.prog 7 #[S a] w (Qq (Qh (val a)) w):=by
 have hbA:Below w.1.size w (w.alloc (.cells #[.string ⟨#[]⟩,.string ⟨#[]⟩] 26)):=(Below.refl _ _).alloc (Nat.le_refl _) _;have HMD:=jq (ZaI a [49] (w.alloc (.cells #[.string ⟨#[]⟩,.string ⟨#[]⟩] 26)) (hp.here hbA) ha (by simp) (by rw[YJ];omega));rw[YJ,YE] at HMD;have HPO:=jq (show Qq (Qh (val a)) w=fun e w'=>e=.returned (QA (Qh (val a)))/\Below w.1.size w w' from rfl);generalize Qq (Qh (val a)) w=post at*;generalize Qh (val a)=res at*;have HB:=jq (show FrB (w.alloc (.cells #[.string ⟨#[]⟩,.string ⟨#[]⟩] 26)) w.1.size Fr.zero from FrB.new w Fr.zero);have HBA:=jq hbA;clear hp ha hbA;unfold QA at*
 unfold S at*
 go_enter Tryz.func7,Tryz.ntmps7
 go_wp2_with fail
 generalize w.alloc _=W at*;refine HMD.out.mono ?_;rintro e w1 ⟨rfl,hb1⟩;unfold QA S;have HB1:=jq (HB.out.here hb1);obtain⟨c0,c1⟩:=HB1.out.cells
 have f0:=HB1.out.frozen 0;have f1:=HB1.out.frozen 1;have hb01:=HBA.out.trans (hb1.mono HBA.out.size);go_wp2_with fail
 refine bodyPost_ret (v:=.agg #[.string ⟨res.n.toArray⟩,.string ⟨res.d.toArray⟩]) (by simp[results,Tryz.results7,go_sem,c0,c1]) rfl ?_;rw[HPO.out];exact⟨rfl,(hb01.setCell (p:=⟨w.1.size,0,none⟩) (Nat.le_refl _) _).setCell (p:=⟨w.1.size,1,none⟩) (Nat.le_refl _) _⟩
def ZaK(f:Fr):Int:=if f.ok then 0 else 1
theorem ZaL(f:Fr)(w:World)(hp:Pow w)(hf:f.Sz 20000):Calls Tryz.prog 49 #[QA f] w (Qt (ZaK f) w):=by
 have hbA:Below w.1.size w (w.alloc (.cells #[.string ⟨f.n.toArray⟩,.string ⟨f.d.toArray⟩] 26)):=(Below.refl _ _).alloc (Nat.le_refl _) _;have HPA:=jq (fun W=>Yy f W (by have:=hf.2;omega));have HMD:=jq (fun W hp=>ZaI f.n f.dt W hp (by have:=hf.1;omega) (by have:=Fr.dt_len hf.2 (by omega);omega) (by rw[Fr.val_dt];exact f.dv_ne));rw[Fr.val_dt,show Rat.divInt (val f.n) f.dv=f.rat from rfl] at HMD;have HPO:=jq (show Qt (ZaK f) w=fun e w'=>e=.returned (.int .i64 (ZaK f))/\Below w.1.size w w' from rfl);have HCK:=jq (show ZaK f=if f=Qh f.rat then 0 else 1 from rfl);generalize Qt (ZaK f) w=post at*;generalize Qh f.rat=g at*;have HB:=jq (FrB.new w f);have HBA:=jq hbA;have HP:=jq hp;obtain⟨x0,x1⟩:=HB.out.cells
 clear hp hf hbA
 have HEQ:=jq (show ZaK f=if(f.n==g.n)&&(f.d==g.d) then 0 else 1 by
  rw[HCK.out]
  by_cases h:f=g
  ·subst h;simp
  ·rw[if_neg h,if_neg];intro h2;simp at h2;exact h (Fr.ext_ h2.1 h2.2))
 clear HCK;unfold QA at*
 unfold S at*
 cases hn:(f.n==g.n)<;>cases hd:(f.d==g.d)
 all_goals
  rw[hn,hd] at HEQ;simp only[Bool.and_true,Bool.and_false,Bool.false_eq_true,if_true,if_false] at HEQ;go_enter Tryz.func49,Tryz.ntmps49
  go_upto_region 1 with (fail)
  generalize w.alloc _=W at*
  go_region_held3 (fun w'=>w'.cell? ⟨w.1.size,0,none⟩=some (.string ⟨f.n.toArray⟩)/\w'.cell? ⟨w.1.size,1,none⟩=some (.string ⟨f.d.toArray⟩))
   (first
     |exact(HB.out.here hz2).cells
     |exact(HB.out.here hz).cells
     |go_keep)
   (first
     |(go_at_call 51;refine(HPA.out _).mono ?_;rintro e w1 ⟨rfl,hb1⟩;unfold S;have hz:Below W.1.size W w1:=(Below.refl _ W).drew.trans hb1)
     |(go_at_call 19;refine(HMD.out _ (HP.out.here (HBA.out.trans (hz.mono HBA.out.size)))).mono ?_;rintro e w2 ⟨rfl,hb2⟩;unfold QA S;have hz2:=hz.trans (hb2.mono hz.size)))
  all_goals
   go_wp2_with fail
   rw[HPO.out,HEQ.out];exact⟨rfl,HBA.out.trans (hz2.mono HBA.out.size)⟩
end
section
def F2(f:Fr):List Value:=[S f.n,S f.d]
theorem Zcg(f:Fr):(F2 f).length=2:=rfl
abbrev Frs(w:World)(B:Nat)(A:Option Addr)(n:Nat)(xs:List Fr):Prop:=Sl F2 2 w B A n xs
theorem Sl.fr{w:World}{B:Nat}{A:Option Addr}{n:Nat}{xs:List Fr}{i:Nat}(h:Frs w B A n xs)(hi:i<n):
 ∃b off x,A=some ⟨b,off,none⟩/\b<B/\xs[i]?=some x/\w.cell? ⟨b,off+i*2,none⟩=some (.string ⟨x.n.toArray⟩)/\w.cell? ⟨b,off+i*2+1,none⟩=some (.string ⟨x.d.toArray⟩):=by
 obtain⟨b,off,x,hA,hb,hx,hc⟩:=h.at_ hi
 exact⟨b,off,x,hA,hb,hx,hc 0 _ rfl,hc 1 _ rfl⟩
def Zc4(p:Fr->Bool)(xs:List Fr):Int:=match xs.findIdx? p with|some i=>(i:Int)|none=> -1
theorem Zgp{p:Fr->Bool}{xs:List Fr}{j:Nat}{r:Fr}(h:xs[j]?=some r)(hr:p r=true)(hn:(xs.take j).any p=false):Zc4 p xs=j:=by
 unfold Zc4
 have:xs.findIdx? p=some j:=by
  rw[List.findIdx?_eq_some_iff_getElem];obtain⟨hj,rfl⟩:=List.getElem?_eq_some_iff.1 h
  refine⟨hj,hr,fun i hi=> ?_⟩;rw[List.any_eq_false] at hn;have:=hn xs[i] (by rw[List.mem_take_iff_getElem];exact⟨i,by omega,rfl⟩)
  simpa using this
 rw[this]
theorem ZbD{p:Fr->Bool}{xs:List Fr}(hn:xs.any p=false):Zc4 p xs= -1:=by
 unfold Zc4
 have:xs.findIdx? p=none:=by
  rw[List.findIdx?_eq_none_iff];intro x hx;rw[List.any_eq_false] at hn;simpa using hn x hx
 rw[this]
theorem Zc5(p:Fr->Bool)(xs:List Fr):decide (0<=Zc4 p xs)=xs.any p:=by
 cases h:xs.any p with
 |false=>rw[ZbD h];rfl
 |true=>
  rw[List.any_eq_true] at h;obtain⟨x,hx,hp⟩:=h
  unfold Zc4
  cases hf:xs.findIdx? p with
  |none=>rw[List.findIdx?_eq_none_iff] at hf;rw[hf x hx] at hp;cases hp
  |some i=>simp
theorem Ze5{p:Fr->Bool}{xs:List Fr}{j:Nat}{r:Fr}(h:xs[j]?=some r)(hn:(xs.take j).any p=false)(hr:p r=false):(xs.take (j+1)).any p=false:=by
 obtain⟨hj,rfl⟩:=List.getElem?_eq_some_iff.1 h
 rw[List.take_succ_eq_append_getElem hj,List.any_append,hn];simp[hr]
theorem ZdX(g:Nat)(p:Fr->Bool)(A:Option Addr)(n c:Nat)(xs:List Fr)(w:World)(eg:∀args w,(callFunc g args).run Tryz.prog w=.ok (.enter g args) w)
 (hp:∀(W:World) (x:Fr),x∈xs->Below w.1.size w W->Calls Tryz.prog g #[QA x] W fun e w'=>e=.returned (.bool (p x))/\Below W.1.size W w') (hr:Frs w w.1.size A n xs) (hn:n<=1000000000):
 Calls Tryz.prog 47 #[.slice A n c,.func (.func g) #[] #[]] w fun e w'=>e=.returned (.int .i64 (Zc4 p xs))/\Below w.1.size w w':=by
 have HPR:=jq hp;have HR:=jq hr;clear hp hr;go_enter Tryz.func47,Tryz.ntmps47
 go_wp2
 go_loopw [5,8] (fun _ i wr=>∃j:Nat,j<=n/\i=.int .i64 j/\Hid ((xs.take j).any p=false)/\Below w.1.size w wr) (fun _ i _=>n-(intOf i).toNat)
 case atStart=>exact⟨0,Nat.zero_le _,rfl,by show _=_;simp,Below.refl _ _⟩
 case round=>
  obtain⟨j,hj,rfl,HN,hb⟩:=hrel
  by_cases hlt:j<n
  ·obtain⟨b,off,r,rfl,hbl,hxj,d0,d1⟩:=(HR.out.below hb).fr hlt
   have HX:=jq hxj;have hcall:=HPR.out wr r (List.mem_of_getElem? hxj) hb;unfold QA S at hcall;clear hxj;have HC:=jq hcall;clear hcall
   cases hq:p r with
   |true=>
    rw[hq] at HC;have HQ:=jq hq;clear hq;go_wp2_with (go_at_fn g;refine(HC.out).mono ?_;rintro e w' ⟨rfl,hb'⟩)
    go_ret
    exact⟨Qc (Zgp HX.out HQ.out HN.out).symm,hb.trans (hb'.mono hb.size)⟩
   |false=>
    rw[hq] at HC;have HQ:=jq hq;clear hq;go_wp2_with (go_at_fn g;refine(HC.out).mono ?_;rintro e w' ⟨rfl,hb'⟩)
    go_roundw
    case rel=>exact⟨j+1,by omega,by go_num,Ze5 HX.out HN.out HQ.out,hb.trans (hb'.mono hb.size)⟩
    case measure=>simp[intOf];omega
  ·go_wp2
   go_ret
   exact⟨Qc (ZbD (by have:=HN.out;rwa [List.take_of_length_le (by have:=HR.out.1;omega)] at this)).symm,hb⟩
theorem Ys(g:Nat)(p:Fr->Bool)(A:Option Addr)(n c:Nat)(xs:List Fr)(w:World)(eg:∀args w,(callFunc g args).run Tryz.prog w=.ok (.enter g args) w)
 (hp:∀(W:World) (x:Fr),x∈xs->Below w.1.size w W->Calls Tryz.prog g #[QA x] W fun e w'=>e=.returned (.bool (p x))/\Below W.1.size W w') (hr:Frs w w.1.size A n xs) (hn:n<=1000000000):
 Calls Tryz.prog 25 #[.slice A n c,.func (.func g) #[] #[]] w fun e w'=>e=.returned (.bool (xs.any p))/\Below w.1.size w w':=by
 have H:=jq (ZdX g p A n c xs w eg hp hr hn);clear hp eg hr;have e:=Zc5 p xs;generalize Zc4 p xs=z at*;have E:=jq e;clear e;go_enter Tryz.func25,Tryz.ntmps25
 go_wp2_with (go_at_call 47;refine(H.out).mono ?_;rintro e w' ⟨rfl,hb'⟩)
 go_ret
 exact⟨Qe E.out,hb'⟩
end
section
theorem Zgr(f h:Fr)(w:World)(hp:Pow w)(hf:f.Sz 20000)(hh:h.Sz 20000):Calls Tryz.prog 30 #[QA f,QA h] w (XO (Jc f.rat h.rat) w):=by
 have HCM:=jq (Qy h.n [] (((w.alloc (.cells #[.string ⟨f.n.toArray⟩,.string ⟨f.d.toArray⟩] 26)).alloc (.cells #[.string ⟨h.n.toArray⟩,.string ⟨h.d.toArray⟩] 26)).alloc (.cells #[.string ⟨#[]⟩,.string ⟨#[]⟩] 26)) (by have:=hh.1;omega) (by simp));rw[show val ([]:List UInt8)=0 from Yg,Int.sub_zero] at HCM
 have HAP:=jq (fun(h0:val h.n≠0) p W hlt hc hpw=>by
  obtain⟨K,hKe⟩:∃K:Nat,K=20000:=⟨_,rfl⟩
  rw[<-hKe] at hf hh;have hK:1<=K:=by omega
  exact Vu 66 _ ZjJ p f h W hlt hc hpw (by rw[<-hKe];exact hf) (by rw[<-hKe];exact hh) (Int.mul_ne_zero f.dv_ne h0) (Vg (Qk (Qu hf.1) (Fr.dv_lt hh.2 hK)) (by omega)) (Vg (Qk (Fr.dv_lt hf.2 hK) (Qu hh.1)) (by omega)))
 simp only[<-ZhF] at HAP;have HQ:=jq (show Jc f.rat h.rat=if val h.n=0 then(Fr.zero,10) else(Qh (f.rat/h.rat),0) by unfold Jc;simp only[ZcF]);have HPO:=jq (show XO (Jc f.rat h.rat) w=fun e w'=>e=.returned (.tuple #[QA (Jc f.rat h.rat).1,.int .i64 (Jc f.rat h.rat).2])/\Below w.1.size w w' from rfl);generalize XO (Jc f.rat h.rat) w=post at*;generalize Qh (f.rat/h.rat)=res at*;have H3:=jq (Fr3.new w f h);have HP:=jq hp;obtain⟨x0,x1,y0,y1⟩:=H3.out.held
 clear hp hf hh;unfold QA at*
 unfold S at*
 go_enter Tryz.func30,Tryz.ntmps30
 go_wp2_with fail
 generalize (((w.alloc (.cells #[.string ⟨f.n.toArray⟩,.string ⟨f.d.toArray⟩] 26)).alloc (.cells #[.string ⟨h.n.toArray⟩,.string ⟨h.d.toArray⟩] 26)).alloc (.cells #[.string ⟨#[]⟩,.string ⟨#[]⟩] 26))=W0 at*;refine HCM.out.mono ?_;rintro e W ⟨rfl,hb0⟩;have HS:=jq (Zgn (val h.n));have H4:=jq (H3.out.here hb0);clear x0 x1 y0 y1;obtain⟨x0,x1,y0,y1⟩:=H4.out.held
 by_cases h0:val h.n=0
 ·have hs:(QC (val h.n)==0)=true:=by rw[HS.out];simp[h0]
  rw[if_pos h0] at HQ;have z0:=H4.out.c.cells.1;have z1:=H4.out.c.cells.2;have f0:=H4.out.c.frozen 0;have f1:=H4.out.c.frozen 1;clear h0 HS;go_wp2_with fail
  refine bodyPost_ret (v:=.tuple #[.agg #[.string ⟨#[]⟩,.string ⟨#[]⟩],.int .i64 10]) (by simp[results,Tryz.results30,go_sem,z0,z1]) rfl ?_;rw[HPO.out,HQ.out];exact⟨rfl,(H4.out.bl.setCell (p:=⟨w.1.size+1+1,0,none⟩) (by simp only;omega) _).setCell (p:=⟨w.1.size+1+1,1,none⟩) (by simp only;omega) _⟩
 ·have hs:(QC (val h.n)==0)=false:=by rw[HS.out];simp[h0]
  rw[if_neg h0] at HQ;have HAP2:=jq (HAP.out h0);clear h0 HS HAP;go_upto_region 3 with (fail)
  go_region_held3 (fun w'=>w'.cell? ⟨w.1.size,0,none⟩=some (.string ⟨f.n.toArray⟩)/\w'.cell? ⟨w.1.size,1,none⟩=some (.string ⟨f.d.toArray⟩)/\w'.cell? ⟨w.1.size+1,0,none⟩=some (.string ⟨h.n.toArray⟩)/\w'.cell? ⟨w.1.size+1,1,none⟩=some (.string ⟨h.d.toArray⟩))
   (first
     |exact(H4.out.here hz2).heldS _ _
     |exact(H4.out.here hz2).held
     |exact(H4.out.here hz).held
     |go_keep)
   (first
     |(go_at_call 40;refine(Zai _).mono ?_;rintro e w1 ⟨p,rfl,hlt,hc,hb1⟩;have hz:Below W.1.size W w1:=(Below.refl _ W).drew.trans hb1;have hix:=Zgl p w1)
     |(go_at_call 39;refine(HAP2.out p _ hlt hc (HP.out.here (H4.out.here hz).bl)).mono ?_;rintro e w2 ⟨rfl,hb2⟩;unfold QA S;have hz2:=hz.trans (hb2.mono hz.size);have z0:=(H4.out.here hz2).c.cells.1;have z1:=(H4.out.here hz2).c.cells.2;have f0:=(H4.out.here hz2).c.frozen 0;have f1:=(H4.out.here hz2).c.frozen 1))
  all_goals
   go_wp2_with fail
   refine bodyPost_ret (v:=.tuple #[.agg #[.string ⟨res.n.toArray⟩,.string ⟨res.d.toArray⟩],.int .i64 0]) (by simp[results,Tryz.results30,go_sem,z0,z1]) rfl ?_;rw[HPO.out,HQ.out];exact⟨rfl,((H4.out.here hz2).bl.setCell (p:=⟨w.1.size+1+1,0,none⟩) (by simp only;omega) _).setCell (p:=⟨w.1.size+1+1,1,none⟩) (by simp only;omega) _⟩
end
section
theorem Zd0(f:Fr)(w:World)(hp:Pow w)(hf:f.Sz 20000):Calls Tryz.prog 48 #[QA f] w fun e w'=>e=.returned (.bool (!decide f.ok))/\Below w.1.size w w':=by
 have hbA:Below w.1.size w (w.alloc (.cells #[.string ⟨f.n.toArray⟩,.string ⟨f.d.toArray⟩] 26)):=(Below.refl _ _).alloc (Nat.le_refl _) _;have HC:=jq (ZaL f (w.alloc (.cells #[.string ⟨f.n.toArray⟩,.string ⟨f.d.toArray⟩] 26)) (hp.here hbA) hf);obtain⟨x0,x1⟩:=(FrB.new w f).cells
 have HE:=jq (show(ZaK f !=0)= !decide f.ok by unfold ZaK;by_cases h:f.ok<;>simp[h]);have HBA:=jq hbA;clear hp hf hbA;generalize ZaK f=z at*;generalize decide f.ok=bb at*;unfold QA at*
 unfold S at*
 go_enter Tryz.func48,Tryz.ntmps48
 go_wp2_with fail
 refine HC.out.mono ?_;rintro e w1 ⟨rfl,hb1⟩;go_wp2_with fail
 go_ret
 exact⟨Qe HE.out,HBA.out.trans (hb1.mono HBA.out.size)⟩
theorem Zc7(x:Rat):decide (YW x Fr.zero.rat<0)=decide (x<0):=by
 rw[ZcE];unfold YW
 by_cases h:x<0
 ·simp[h]
 ·rw[if_neg h];simp only[h,decide_false,decide_eq_false_iff_not]
  split<;>omega
theorem Zd1(f:Fr)(w:World)(hp:Pow w)(hf:f.Sz 20000):Calls Tryz.prog 50 #[QA f] w fun e w'=>e=.returned (.bool (decide (f.rat<0)))/\Below w.1.size w w':=by
 have hbA:Below w.1.size w (w.alloc (.cells #[.string ⟨f.n.toArray⟩,.string ⟨f.d.toArray⟩] 26)):=(Below.refl _ _).alloc (Nat.le_refl _) _;have HC:=jq (XP f Fr.zero (w.alloc (.cells #[.string ⟨f.n.toArray⟩,.string ⟨f.d.toArray⟩] 26)) (hp.here hbA) hf ⟨by simp[Fr.zero],by simp[Fr.zero]⟩);obtain⟨x0,x1⟩:=(FrB.new w f).cells
 have HE:=jq (Zc7 f.rat);have HBA:=jq hbA;clear hp hf hbA;generalize YW f.rat Fr.zero.rat=z at*;generalize decide (f.rat<0)=bb at*;unfold QA at*
 unfold S at*
 go_enter Tryz.func50,Tryz.ntmps50
 go_wp2_with fail
 refine HC.out.mono ?_;rintro e w1 ⟨rfl,hb1⟩;go_wp2_with fail
 go_ret
 exact⟨Qe HE.out,HBA.out.trans (hb1.mono HBA.out.size)⟩
def YR(p v r:Fr):Int:=if p.ok/\v.ok/\r.ok then(if p.rat<0\/v.rat<0\/r.rat<0\/r=Fr.zero then 2 else 0) else 1
theorem frz(r:Fr):(r=Fr.zero)↔(r.n=[]/\r.d=[]):=by
 constructor
 ·rintro rfl;exact⟨rfl,rfl⟩
 ·rintro⟨h1,h2⟩;exact Fr.ext_ h1 h2
theorem ZbG(A:Option Addr)(c:Nat)(p v r:Fr)(w:World)(hp:Pow w)(hp2:p.Sz 20000)(hv:v.Sz 20000)(hr:r.Sz 20000)(hs:Frs w w.1.size A 3 [p,v,r]):
 Calls Tryz.prog 27 #[.slice A 3 c] w (Qt (YR p v r) w):=by
 have hsz:∀x∈[p,v,r],x.Sz 20000:=by
  intro x hx;simp at hx
  rcases hx with rfl|rfl|rfl<;>assumption
 have HC1:=jq (Ys 48 (fun f=> !decide f.ok) A 3 c [p,v,r] w (enters_of Tryz.func48 (by kernel_rfl) rfl) (fun W x hx hb=>Zd0 x W (hp.here hb) (hsz x hx)) hs (by omega));have HC2:=jq (fun W (hbW:Below w.1.size w W)=>Ys 50 (fun f=>decide (f.rat<0)) A 3 c [p,v,r] W (enters_of Tryz.func50 (by kernel_rfl) rfl) (fun W' x hx hb=>Zd1 x W' ((hp.here hbW).here hb) (hsz x hx)) (hs.here hbW) (by omega));have HPO:=jq (show Qt (YR p v r) w=fun e w'=>e=.returned (.int .i64 (YR p v r))/\Below w.1.size w w' from rfl);generalize Qt (YR p v r) w=post at*;obtain⟨b,off,x,hA,hb,hx,d0,d1⟩:=hs.fr (i:=2) (by omega)
 simp at hx;subst hx;subst hA
 have HR:=jq (frz r);have HD0:=jq d0;have HD1:=jq d1;have HK:=jq (show YR p v r=if p.ok/\v.ok/\r.ok then(if p.rat<0\/v.rat<0\/r.rat<0\/r=Fr.zero then 2 else 0) else 1 from rfl);clear hs d0 d1 hp hp2 hv hr hsz
 by_cases h1:p.ok/\v.ok/\r.ok
 ·rw[show[p,v,r].any (fun f=> !decide f.ok)=false by simp[h1]] at HC1;rw[if_pos h1] at HK
  by_cases h2:p.rat<0\/v.rat<0\/r.rat<0
  ·rw[show[p,v,r].any (fun f=>decide (f.rat<0))=true by simp;exact h2] at HC2;rw[if_pos (by rcases h2 with h|h|h<;>simp[h])] at HK;clear h1 h2;go_enter Tryz.func27,Tryz.ntmps27
   go_wp2_with fail
   refine HC1.out.mono ?_;rintro e w1 ⟨rfl,hb1⟩;go_wp2_with fail
   refine(HC2.out _ hb1).mono ?_;rintro e w2 ⟨rfl,hb2⟩;go_wp2_with fail
   rw[HPO.out,HK.out];exact⟨rfl,hb1.trans (hb2.mono hb1.size)⟩
  ·rw[show[p,v,r].any (fun f=>decide (f.rat<0))=false by simp only[List.any_cons,List.any_nil,Bool.or_false,Bool.or_eq_false_iff,decide_eq_false_iff_not];simp only[not_or] at h2;exact⟨h2.1,h2.2.1,h2.2.2⟩] at HC2
   have HK2:=jq (show YR p v r=if(r.n==[])&&(r.d==[]) then 2 else 0 by
    rw[HK.out];simp only[not_or] at h2;simp only[h2.1,h2.2.1,h2.2.2,false_or,HR.out]
    by_cases ha:r.n=[]<;>by_cases hb:r.d=[]<;>simp[ha,hb])
   clear h1 h2 HK HR
   cases hn:(r.n==[])<;>cases hd:(r.d==[])
   all_goals
    rw[hn,hd] at HK2;simp only[Bool.and_true,Bool.and_false,Bool.false_eq_true,if_true,if_false] at HK2;go_enter Tryz.func27,Tryz.ntmps27
    go_wp2_with fail
    refine HC1.out.mono ?_;rintro e w1 ⟨rfl,hb1⟩;go_wp2_with fail
    refine(HC2.out _ hb1).mono ?_;rintro e w2 ⟨rfl,hb2⟩;have hb12:=hb1.trans (hb2.mono hb1.size);have e0:=(hb12.cell (p:=⟨b,off+2*2,none⟩) hb).trans HD0.out;have e1:=(hb12.cell (p:=⟨b,off+2*2+1,none⟩) hb).trans HD1.out;simp only[Nat.reduceMul] at e0 e1;go_wp2_with fail
    rw[HPO.out,HK2.out];exact⟨rfl,hb12⟩
 ·rw[show[p,v,r].any (fun f=> !decide f.ok)=true by
   simp only[List.any_cons,List.any_nil,Bool.or_false,Bool.or_eq_true,Bool.not_eq_true',decide_eq_false_iff_not]
   by_cases a1:p.ok
   ·by_cases a2:v.ok
    ·exact .inr (.inr (fun a3=>h1 ⟨a1,a2,a3⟩))
    ·exact .inr (.inl a2)
   ·exact .inl a1] at HC1
  rw[if_neg h1] at HK;clear h1;go_enter Tryz.func27,Tryz.ntmps27
  go_wp2_with fail
  refine HC1.out.mono ?_;rintro e w1 ⟨rfl,hb1⟩;go_wp2_with fail
  rw[HPO.out,HK.out];exact⟨rfl,hb1⟩
end
section
structure Fr4 (w:World) (p:Nat) (f g h:Fr) (W:World):Prop where
 a:FrB W p f
 b:FrB W (p+1) g
 c:FrB W (p+1+1) h
 d:FrB W (p+1+1+1) Fr.zero
 bl:Below w.1.size w W
 hp:w.1.size<=p
theorem Fr4.here{w:World}{p:Nat}{f g h:Fr}{W W':World}(H:Fr4 w p f g h W)(hb:Below W.1.size W W'):Fr4 w p f g h W':=⟨H.a.here hb,H.b.here hb,H.c.here hb,H.d.here hb,H.bl.trans (hb.mono H.bl.size),H.hp⟩
theorem Fr4.new(w:World)(f g h:Fr):Fr4 w w.1.size f g h ((((w.alloc (.cells #[.string ⟨f.n.toArray⟩,.string ⟨f.d.toArray⟩] 26)).alloc (.cells #[.string ⟨g.n.toArray⟩,.string ⟨g.d.toArray⟩] 26)).alloc (.cells #[.string ⟨h.n.toArray⟩,.string ⟨h.d.toArray⟩] 26)).alloc (.cells #[.string ⟨#[]⟩,.string ⟨#[]⟩] 26)):=by
 refine⟨(((FrB.new w f).alloc _).alloc _).alloc _,?_,?_,?_,((((Below.refl _ _).alloc (Nat.le_refl _) _).alloc (by simp) _).alloc (by simp;omega) _).alloc (by simp;omega) _,Nat.le_refl _⟩
 ·have:=((FrB.new (w.alloc (.cells #[.string ⟨f.n.toArray⟩,.string ⟨f.d.toArray⟩] 26)) g).alloc (.cells #[.string ⟨h.n.toArray⟩,.string ⟨h.d.toArray⟩] 26)).alloc (.cells #[.string ⟨#[]⟩,.string ⟨#[]⟩] 26)
  simp only[World.size_alloc] at this;exact this
 ·have:=(FrB.new ((w.alloc (.cells #[.string ⟨f.n.toArray⟩,.string ⟨f.d.toArray⟩] 26)).alloc (.cells #[.string ⟨g.n.toArray⟩,.string ⟨g.d.toArray⟩] 26)) h).alloc (.cells #[.string ⟨#[]⟩,.string ⟨#[]⟩] 26)
  simp only[World.size_alloc] at this;exact this
 ·have:=FrB.new (((w.alloc (.cells #[.string ⟨f.n.toArray⟩,.string ⟨f.d.toArray⟩] 26)).alloc (.cells #[.string ⟨g.n.toArray⟩,.string ⟨g.d.toArray⟩] 26)).alloc (.cells #[.string ⟨h.n.toArray⟩,.string ⟨h.d.toArray⟩] 26)) Fr.zero
  simp only[World.size_alloc] at this;exact this
theorem Fr4.held{w:World}{p:Nat}{f g h:Fr}{W:World}(H:Fr4 w p f g h W):W.cell? ⟨p,0,none⟩=some (.string ⟨f.n.toArray⟩)/\W.cell? ⟨p,1,none⟩=some (.string ⟨f.d.toArray⟩)/\W.cell? ⟨p+1,0,none⟩=some (.string ⟨g.n.toArray⟩)/\W.cell? ⟨p+1,1,none⟩=some (.string ⟨g.d.toArray⟩)/\W.cell? ⟨p+1+1,0,none⟩=some (.string ⟨h.n.toArray⟩)/\W.cell? ⟨p+1+1,1,none⟩=some (.string ⟨h.d.toArray⟩):=
 ⟨H.a.cells.1,H.a.cells.2,H.b.cells.1,H.b.cells.2,H.c.cells.1,H.c.cells.2⟩
theorem FrB.set2{w:World}{p:Nat}{f:Fr}(h:FrB w p f)(g:Fr):FrB ((w.setCell ⟨p,0,none⟩ (.string ⟨g.n.toArray⟩)).setCell ⟨p,1,none⟩ (.string ⟨g.d.toArray⟩)) p g:=by
 unfold FrB at h ⊢;rw[heap_setCell_same _ p 1 _ 26 _ (heap_setCell_same w p 0 _ 26 _ h)];rfl
theorem Fr4.far2{w:World}{p:Nat}{f g h:Fr}{W:World}(H:Fr4 w p f g h W)(q:Nat)(hq:p+1+1+1<q)(u v:Value):Fr4 w p f g h ((W.setCell ⟨q,0,none⟩ u).setCell ⟨q,1,none⟩ v):=by
 have hp:=H.hp;exact⟨(H.a.far (by simp only;omega) _).far (by simp only;omega) _,(H.b.far (by simp only;omega) _).far (by simp only;omega) _,(H.c.far (by simp only;omega) _).far (by simp only;omega) _,(H.d.far (by simp only;omega) _).far (by simp only;omega) _,(H.bl.setCell (by simp only;omega) _).setCell (by simp only;omega) _,H.hp⟩
def YK(p v r:Fr):Fr×Int:=if YR p v r=0 then(if p.rat-v.rat*r.rat<0 then(Fr.zero,2) else(Qh (p.rat-v.rat*r.rat),0)) else(Fr.zero,YR p v r)
def YL(p v r:Fr):Fr×Int:=if YR p v r=0 then Jc (v.rat*r.rat) (p.rat+v.rat*r.rat) else(Fr.zero,YR p v r)
theorem Zgs{f h:Fr}{L:Nat}(hf:f.Sz L)(hh:h.Sz L)(hL:1<=L):(Qh (f.rat*h.rat)).Sz (L+L+1):=YB (Zf0 hf hh hL)
theorem Zi3{f h:Fr}{L:Nat}(hf:f.Sz L)(hh:h.Sz L)(hL:1<=L):(Qh (f.rat+h.rat)).Sz (L+L+1+1):=YB (ZiP hf hh hL)
theorem Zc8(w:World)(p v r:Fr):Frs (w.alloc (.cells #[.string ⟨p.n.toArray⟩,.string ⟨p.d.toArray⟩,.string ⟨v.n.toArray⟩,.string ⟨v.d.toArray⟩,.string ⟨r.n.toArray⟩,.string ⟨r.d.toArray⟩] 26)) (w.1.size+1) (some ⟨w.1.size,0,none⟩) 3 [p,v,r]:=
 Sl.lit w _ 26 [p,v,r] rfl Zcg
theorem Ze6(p v r:Fr)(w:World)(hp:Pow w)(hp2:p.Sz 100)(hv:v.Sz 100)(hr:r.Sz 100):Calls Tryz.prog 12 #[QA p,QA v,QA r] w (XO (YK p v r) w):=by
 have H4:=jq (Fr4.new w p v r);have HP:=jq hp;obtain⟨x0,x1⟩:=H4.out.a.cells
 obtain⟨y0,y1⟩:=H4.out.b.cells
 obtain⟨z0,z1⟩:=H4.out.c.cells
 have HCK:=jq (fun W A c (hb:Below w.1.size w W) hs=>ZbG A c p v r W (hp.here hb) (hp2.more (by omega)) (hv.more (by omega)) (hr.more (by omega)) hs);have hgs:(Qh (v.rat*r.rat)).Sz 201:=Zgs hv hr (by omega);have HMU:=jq (fun W (hb:Below w.1.size w W)=>ZaJ v r W (hp.here hb) (hv.more (by omega)) (hr.more (by omega)));have HSU:=jq (fun W (hb:Below w.1.size w W)=>Zc3 p (Qh (v.rat*r.rat)) W (hp.here hb) (hp2.more (by omega)) (hgs.more (by omega)));rw[Ql] at HSU
 have hss:(Qh (p.rat-v.rat*r.rat)).Sz 404:=by
  have:=Zgo (hp2.more (show 100<=201 by omega)) hgs (by omega)
  rwa [Ql] at this
 have HCP:=jq (fun W (hb:Below w.1.size w W)=>XP (Qh (p.rat-v.rat*r.rat)) Fr.zero W (hp.here hb) (hss.more (by omega)) ⟨by simp[Fr.zero],by simp[Fr.zero]⟩);rw[Ql] at HCP;have HZ:=jq (Zc7 (p.rat-v.rat*r.rat));have HPL:=jq (show YK p v r=if YR p v r=0 then(if p.rat-v.rat*r.rat<0 then(Fr.zero,2) else(Qh (p.rat-v.rat*r.rat),0)) else(Fr.zero,YR p v r) from rfl);have HPO:=jq (show XO (YK p v r) w=fun e w'=>e=.returned (.tuple #[QA (YK p v r).1,.int .i64 (YK p v r).2])/\Below w.1.size w w' from rfl);generalize XO (YK p v r) w=post at*;generalize YK p v r=pl at*;generalize YR p v r=ck at*;generalize Qh (v.rat*r.rat)=gv_ at*;generalize hres:Qh (p.rat-v.rat*r.rat)=res at*;generalize p.rat-v.rat*r.rat=q at*;generalize YW q Fr.zero.rat=cq at*;clear hp hp2 hv hr hgs hss hres;unfold QA at*
 unfold S at*
 go_enter Tryz.func12,Tryz.ntmps12
 go_upto_region 1 with (fail)
 generalize ((((w.alloc (.cells #[.string ⟨p.n.toArray⟩,.string ⟨p.d.toArray⟩] 26)).alloc (.cells #[.string ⟨v.n.toArray⟩,.string ⟨v.d.toArray⟩] 26)).alloc (.cells #[.string ⟨r.n.toArray⟩,.string ⟨r.d.toArray⟩] 26)).alloc (.cells #[.string ⟨#[]⟩,.string ⟨#[]⟩] 26))=W at*;have HSL:=jq (Zc8 W p v r);go_wp2_with fail
 refine(HCK.out _ _ _ (H4.out.bl.alloc H4.out.bl.size _) (by have:=HSL.out;simpa using this)).mono ?_;rintro e w1 ⟨rfl,hb1⟩;have hbW1:Below W.1.size W w1:=((Below.refl _ W).alloc (Nat.le_refl _) _).trans (hb1.mono (by simp));have H5:=jq (H4.out.here hbW1);clear x0 x1 y0 y1 z0 z1 hb1 HSL;obtain⟨x0,x1⟩:=H5.out.a.cells
 obtain⟨y0,y1⟩:=H5.out.b.cells
 obtain⟨z0,z1⟩:=H5.out.c.cells
 by_cases hck:ck=0
 ·rw[if_pos hck] at HPL;subst hck;go_upto_region 4 with (fail)
  go_cut [9] (fun s wc=>∃q9,s=.pointer (some ⟨q9,0,none⟩)/\Hid (FrB wc q9 res)/\Hid (Fr4 w w.1.size p v r wc))
  case first=>
   go_region_held3 (fun w'=>w'.cell? ⟨w.1.size,0,none⟩=some (.string ⟨p.n.toArray⟩)/\w'.cell? ⟨w.1.size,1,none⟩=some (.string ⟨p.d.toArray⟩)/\w'.cell? ⟨w.1.size+1,0,none⟩=some (.string ⟨v.n.toArray⟩)/\w'.cell? ⟨w.1.size+1,1,none⟩=some (.string ⟨v.d.toArray⟩)/\w'.cell? ⟨w.1.size+1+1,0,none⟩=some (.string ⟨r.n.toArray⟩)/\w'.cell? ⟨w.1.size+1+1,1,none⟩=some (.string ⟨r.d.toArray⟩))
    (first
      |exact((H5.out.here hz2).far2 _ hq9 _ _).held
      |exact((H5.out.here hz2).here ((Below.refl _ _).alloc (Nat.le_refl _) _)).held
      |exact(H5.out.here hz2).held
      |exact((H5.out.here hz).here ((Below.refl _ _).alloc (Nat.le_refl _) _)).held
      |exact(H5.out.here hz).held
      |go_keep)
    (first
      |(go_at_call 17;refine(HMU.out _ (by first|exact(H5.out.here (Below.refl _ w1).drew).bl|exact(H5.out.here ((Below.refl _ w1).alloc (Nat.le_refl _) _).drew).bl)).mono ?_;rintro e w2 ⟨rfl,hb2⟩;unfold QA S
        have hz:Below w1.1.size w1 w2:=by first|exact(Below.refl _ w1).drew.trans hb2|exact((Below.refl _ w1).alloc (Nat.le_refl _) _).drew.trans (hb2.mono (by simp))
        first|(have hq1:FrB w2 w1.1.size Fr.zero:=FrB.here (w:=(w1.alloc (.cells #[.string ⟨#[]⟩,.string ⟨#[]⟩] 26)).drew) (FrB.new w1 Fr.zero) hb2)|skip)
      |(go_at_call 28;refine(HSU.out _ (by first|exact(H5.out.here hz).bl|exact((H5.out.here hz).here ((Below.refl _ _).alloc (Nat.le_refl _) _)).bl)).mono ?_;rintro e w3 ⟨rfl,hb3⟩;unfold QA S
        have hz2:Below w1.1.size w1 w3:=by first|exact hz.trans (hb3.mono hz.size)|exact(hz.alloc hz.size _).trans (hb3.mono (by have:=hz.size;simp;omega))
        first
         |(have hq2:FrB w3 w1.1.size Fr.zero:=hq1.here hb3;have n0:=hq2.cells.1;have n1:=hq2.cells.2;have g0:=hq2.frozen 0;have g1:=hq2.frozen 1;have hq9:w.1.size+1+1+1<w1.1.size:=H5.out.d.lt)
         |(have hq2:FrB w3 w2.1.size Fr.zero:=FrB.here (w:=w2.alloc (.cells #[.string ⟨#[]⟩,.string ⟨#[]⟩] 26)) (FrB.new w2 Fr.zero) hb3;have n0:=hq2.cells.1;have n1:=hq2.cells.2;have g0:=hq2.frozen 0;have g1:=hq2.frozen 1;have hq9:w.1.size+1+1+1<w2.1.size:=(H5.out.here hz).d.lt)
         |skip))
   all_goals
    go_wp2_with fail
    go_meet
    first
     |exact⟨_,rfl,hq2.set2 res,(H5.out.here hz2).far2 _ hq9 _ _⟩
     |exact⟨_,rfl,FrB.new w3 res,(H5.out.here hz2).here ((Below.refl _ _).alloc (Nat.le_refl _) _)⟩
  case rest=>
  clear x0 x1 y0 y1 z0 z1;obtain⟨q9,rfl,HB9,H6⟩:=hcut
  obtain⟨w4,rfl⟩:∃W,W=wc:=⟨_,rfl⟩
  obtain⟨n0,n1⟩:=HB9.out.cells
  go_wp2_with fail
  refine(HCP.out _ H6.out.bl).mono ?_;rintro e w5 ⟨rfl,hb5⟩;have H7:=jq (H6.out.here hb5);have HB7:=jq (HB9.out.here hb5);have f0:=H7.out.d.frozen 0;have f1:=H7.out.d.frozen 1;obtain⟨t0,t1⟩:=H7.out.d.cells
  clear n0 n1;obtain⟨n0,n1⟩:=HB7.out.cells
  by_cases hq0:q<0
  ·rw[if_pos hq0] at HPL;have hd:decide (cq<0)=true:=by rw[HZ.out];simpa using hq0
   clear hq0 HZ;go_wp2_with fail
   refine bodyPost_ret (v:=.tuple #[.agg #[.string ⟨#[]⟩,.string ⟨#[]⟩],.int .i64 2]) (by simp[results,Tryz.results12,go_sem,t0,t1]) rfl ?_;rw[HPO.out,HPL.out];exact⟨rfl,(H7.out.bl.setCell (p:=⟨w.1.size+1+1+1,0,none⟩) (by simp only;omega) _).setCell (p:=⟨w.1.size+1+1+1,1,none⟩) (by simp only;omega) _⟩
  ·rw[if_neg hq0] at HPL;have hd:decide (cq<0)=false:=by rw[HZ.out];simpa using hq0
   clear hq0 HZ;go_wp2_with fail
   refine bodyPost_ret (v:=.tuple #[.agg #[.string ⟨res.n.toArray⟩,.string ⟨res.d.toArray⟩],.int .i64 0]) (by simp[results,Tryz.results12,go_sem,t0,t1]) rfl ?_;rw[HPO.out,HPL.out];exact⟨rfl,(H7.out.bl.setCell (p:=⟨w.1.size+1+1+1,0,none⟩) (by simp only;omega) _).setCell (p:=⟨w.1.size+1+1+1,1,none⟩) (by simp only;omega) _⟩
 ·rw[if_neg hck] at HPL;have hckb:(ck !=0)=true:=by simpa using hck
  have f0:=H5.out.d.frozen 0;have f1:=H5.out.d.frozen 1;obtain⟨t0,t1⟩:=H5.out.d.cells
  clear hck;go_wp2_with fail
  refine bodyPost_ret (v:=.tuple #[.agg #[.string ⟨#[]⟩,.string ⟨#[]⟩],.int .i64 ck]) (by simp[results,Tryz.results12,go_sem,t0,t1]) rfl ?_;rw[HPO.out,HPL.out];exact⟨rfl,(H5.out.bl.setCell (p:=⟨w.1.size+1+1+1,0,none⟩) (by simp only;omega) _).setCell (p:=⟨w.1.size+1+1+1,1,none⟩) (by simp only;omega) _⟩
end
end Go.Proofs.YtlhmkgmojgnaaaaGreatDoor
