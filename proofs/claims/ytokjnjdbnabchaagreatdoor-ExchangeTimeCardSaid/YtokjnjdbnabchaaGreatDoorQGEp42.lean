/- Eh, Ei, Eaw, Ej, Ex8. -/
import Derived.Test.YtokjnjdbnabchaaGreatDoorQGEp33
import Derived.Test.YtokjnjdbnabchaaGreatDoorQGEp41
set_option maxRecDepth 100000
set_option maxHeartbeats 2000000
namespace Go.Proofs.YtokjnjdbnabchaaGreatDoor
open Go.Lib renaming hid→jq
section
open Go.RowKit Go.Shelf
attribute [local go_sem] Oper.semAt_some
attribute [local go_sem ↓] Go.wp_at_zero Go.wp_at_succ
theorem ZcU(W:World)(a b:Ky):Vc (W.alloc (.cells #[.string ⟨a.toArray⟩,.string ⟨b.toArray⟩] 9)) (W.alloc (.cells #[.string ⟨a.toArray⟩,.string ⟨b.toArray⟩] 9)).heap.size (some ⟨W.1.size,0,none⟩) 2 [a,b]:=by
 rw[show(W.alloc (.cells #[.string ⟨a.toArray⟩,.string ⟨b.toArray⟩] 9)).heap.size=W.1.size+1 by simp];exact Sl.lit W _ 9 [a,b] rfl XY
structure QC (w:World) (A:Option Addr) (n c:Nat) (xs:List Fx) (d:Int) (a b:Ky):Prop where
 chk:∀W,Below w.1.size w W->Calls Tryz.prog 44 #[.slice A n c,.int .i64 d,.slice (some ⟨W.1.size,0,none⟩) 2 2] (W.alloc (.cells #[.string ⟨a.toArray⟩,.string ⟨b.toArray⟩] 9)) fun e w'=>e=.returned (.int .i64 (QA (xs.map (·.1)) d [a,b]))/\Below W.1.size W w'
 read:∀W,Below w.1.size w W->Calls Tryz.prog 45 #[.slice A n c,.int .i64 d] W fun e w'=>∃b,e=.returned (.map (some b))/\PmB w' b (2*n) (fun p=>(QP d (xs.map (·.1)) p).map Qj)/\W.1.size<=b/\Below W.1.size W w'
 len:n=xs.length
theorem QC.mk'{w:World}{A:Option Addr}{n c:Nat}{xs:List Fx}{d:Int}{a b:Ky}(hp:Env w)(hs:Fxs w w.1.size A n xs)(hn:n<=100000)(ha:a.length<=maxLen)(hb:b.length<=maxLen):QC w A n c xs d a b where
 chk W hW:=by
  have h1:Below W.1.size W (W.alloc (.cells #[.string ⟨a.toArray⟩,.string ⟨b.toArray⟩] 9)):=(Below.refl _ _).alloc (Nat.le_refl _) _
  refine(Jp A _ n c 2 2 xs d [a,b] _ ((hp.here hW).here h1) ((hs.here hW).here h1) (by omega) (ZcU W a b) (by decide) (fun s hs=>by
   rcases List.mem_cons.1 hs with rfl|hs
   ·exact ha
   ·rw[List.mem_singleton.1 hs];exact hb)).mono ?_
  rintro e w' ⟨rfl,hb'⟩;exact⟨rfl,h1.trans (hb'.mono h1.size)⟩
 read W hW:=Zab A n c xs d W (hp.here hW) (hs.here hW) hn
 len:=hs.len
def PaPost(r:List Ky×Int)(w:World)(e:Ending)(w':World):Prop:=∃A c,e=.returned (.tuple #[.slice A r.1.length c,.int .i64 r.2])/\Vc w' w'.1.size A r.1.length r.1/\Below w.1.size w w'
def Zb0(r:(Fr×Bool)×Int)(w:World)(e:Ending)(w':World):Prop:=e=.returned (.tuple #[Qj r.1.1,.bool r.1.2,.int .i64 r.2])/\Below w.1.size w w'
def Zar(r:Fr×Int)(w:World)(e:Ending)(w':World):Prop:=e=.returned (.tuple #[Qj r.1,.int .i64 r.2])/\Below w.1.size w w'
def Zb1(r:List UInt8×Int)(w:World)(e:Ending)(w':World):Prop:=e=.returned (.tuple #[S r.1,.int .i64 r.2])/\Below w.1.size w w'
theorem PaPost.nil{w w':World}(z:Int)(h:Below w.1.size w w'):PaPost ([],z) w (.returned (.tuple #[.slice none 0 0,.int .i64 z])) w':=⟨Option.none,0,rfl,Sl.nil,h⟩
theorem Jq(A:Option Addr)(n c:Nat)(xs:List Fx)(d:Int)(a b:Ky)(w:World)(hp:Env w)(hs:Fxs w w.1.size A n xs)(hn:n<=100000)(ha:a.length<=maxLen)(hb:b.length<=maxLen):
 Calls Tryz.prog 14 #[.slice A n c,.string ⟨a.toArray⟩,.string ⟨b.toArray⟩,.int .i64 d] w (PaPost (paR d (xs.map (·.1)) a b) w):=by
 have hof:paR d (xs.map (·.1)) a b=if QA (xs.map (·.1)) d [a,b]≠0 then([],QA (xs.map (·.1)) d [a,b]) else if Ys d (xs.map (·.1)) a b=[] then([],17) else(Ys d (xs.map (·.1)) a b,0):=rfl
 have HQ:=jq (QC.mk' (c:=c) (d:=d) hp hs hn ha hb);have H:=jq (Kp.start hp)
 have HPA:=jq (fun(h0:QA (xs.map (·.1)) d [a,b]=0) bm W (hW:Env W) (hB:PmB W bm (2*n) (fun p=>(QP d (xs.map (·.1)) p).map Qj))=>Zap bm (2*n) (QP d (xs.map (·.1))) (cdL d (xs.map (·.1))) a b W hW hB (by
  have:=(QB h0).1.len
  rw[List.length_map] at this;have:=hs.len
  omega) (fun x hx=>by
   have:=ZbS (QB h0).1 x hx
   have h3:(3:Nat)<=maxLen:=by decide
   exact⟨Nat.le_trans this.1 h3,Nat.le_trans this.2 h3⟩) ha hb (XU _ _))
 change Hid (∀(h0:QA (xs.map (·.1)) d [a,b]=0) bm W (hW:Env W) (hB:PmB W bm (2*n) (fun p=>(QP d (xs.map (·.1)) p).map Qj)),Calls Tryz.prog 49 #[.map (some bm),.string ⟨a.toArray⟩,.string ⟨b.toArray⟩] W fun e w'=>∃A c,e=.returned (.slice A (Ys d (xs.map (·.1)) a b).length c)/\Vc w' w'.1.size A (Ys d (xs.map (·.1)) a b).length (Ys d (xs.map (·.1)) a b)/\(Ys d (xs.map (·.1)) a b).length<=2*n+1/\Below W.1.size W w') at HPA
 have HCK:=jq HQ.out.chk;have HRD:=jq HQ.out.read;clear HQ;generalize paR d (xs.map (·.1)) a b=res at*;generalize QA (xs.map (·.1)) d [a,b]=lc at*;generalize Ys d (xs.map (·.1)) a b=l at*;generalize QP d (xs.map (·.1))=m at*;have HRS:=jq hof;generalize hpo:PaPost res w=post;have HPO:=jq hpo;clear hp hs ha hb hof hpo
 by_cases h0:lc=0
 case neg=>
  rw[if_pos h0] at HRS;have hz:(lc !=0)=true:=by simp[h0]
  clear h0 HPA HRD;go_enter Tryz.func14,Tryz.ntmps14
  go_wp2_with fail
  refine(HCK.out w (Below.refl _ _)).mono ?_;rintro e w1 ⟨rfl,hb1⟩;go_wp2_with fail
  first|go_ret2|skip
  rw[<-HPO.out,HRS.out];exact PaPost.nil _ hb1
 rw[if_neg (by simpa using h0)] at HRS;subst h0;replace HPA:=jq (HPA.out rfl);go_enter Tryz.func14,Tryz.ntmps14
 go_wp2_with fail
 refine(HCK.out w (Below.refl _ _)).mono ?_;rintro e w1 ⟨rfl,hb1⟩;have H1:=jq (H.out.here hb1);clear hb1 HCK H;go_wp2_with fail
 refine(HRD.out w1 H1.out.bl).mono ?_;rintro e w2 ⟨bm,rfl,hm2,_,hb2⟩;have H2:=jq (H1.out.here hb2);have HM2:=jq hm2;clear hb2 hm2 HRD H1;go_wp2_with fail
 refine(HPA.out bm w2 H2.out.pw HM2.out).mono ?_;rintro e w3 ⟨A3,c3,rfl,hs3,_,hb3⟩;have H3:=jq (H2.out.here hb3);have HS3:=jq hs3;obtain⟨ll,hll⟩:∃ll,l.length=ll:=⟨_,rfl⟩
 have HLL:=jq hll;rw[hll] at HS3 ⊢;clear hb3 hs3 HPA H2 HM2 hll
 by_cases hl:ll=0
 ·have HLE:=jq (show l=[] from List.length_eq_zero_iff.1 (by rw[HLL.out];exact hl));rw[if_pos HLE.out] at HRS;subst hl;go_wp2_with fail
  first|go_ret2|skip
  rw[<-HPO.out,HRS.out];exact PaPost.nil _ H3.out.bl
 ·rw[if_neg (fun e=>hl (by rw[<-HLL.out,e];rfl))] at HRS;have i0:¬(ll:Int)=0:=by omega
  have i1:((ll:Int)==0)=false:=by simp[hl]
  go_wp2_with fail
  first|go_ret2|skip
  rw[<-HPO.out,HRS.out,<-HLL.out];rw[<-HLL.out] at HS3;exact⟨A3,c3,rfl,HS3.out,H3.out.bl⟩
theorem Zb2(A:Option Addr)(n c:Nat)(xs:List Fx)(d:Int)(a b:Ky)(w:World)(hp:Env w)(hs:Fxs w w.1.size A n xs)(hn:n<=100000)(ha:a.length<=maxLen)(hb:b.length<=maxLen):
 Calls Tryz.prog 12 #[.slice A n c,.string ⟨a.toArray⟩,.string ⟨b.toArray⟩,.int .i64 d] w (Zb0 (diR d (xs.map (·.1)) a b) w):=by
 have hof:diR d (xs.map (·.1)) a b=if QA (xs.map (·.1)) d [a,b]≠0 then((Fr.zero,false),QA (xs.map (·.1)) d [a,b]) else(ZbV (QP d (xs.map (·.1))) a b,0):=rfl
 have HQ:=jq (QC.mk' (c:=c) (d:=d) hp hs hn ha hb);have H:=jq ((Kp.start hp).new w.1.size rfl #[.string ⟨#[]⟩,.string ⟨#[]⟩] 28);have HDI:=jq (fun bm W (hW:Env W) (hB:PmB W bm (2*n) (fun p=>(QP d (xs.map (·.1)) p).map Qj))=>ZaI bm (2*n) (QP d (xs.map (·.1))) a b W hW hB ha hb);have HCK:=jq HQ.out.chk;have HRD:=jq HQ.out.read;clear HQ;generalize diR d (xs.map (·.1)) a b=res at*;generalize QA (xs.map (·.1)) d [a,b]=lc at*;generalize QP d (xs.map (·.1))=m at*;generalize ZbV m a b=dm at*;have HRS:=jq hof;have HPO:=jq (show Zb0 res w=fun e w'=>e=.returned (.tuple #[.agg #[.string ⟨res.1.1.n.toArray⟩,.string ⟨res.1.1.d.toArray⟩],.bool res.1.2,.int .i64 res.2])/\Below w.1.size w w' from rfl);generalize Zb0 res w=post at*;clear hp hs ha hb hof;unfold XZ Qj S at HDI;go_enter Tryz.func12,Tryz.ntmps12
 go_upto_region 1 with (fail)
 obtain⟨b0,hb0⟩:∃b0,w.1.size=b0:=⟨_,rfl⟩
 rw[hb0] at H ⊢;generalize w.alloc _=W1 at*;go_wp2_with fail
 refine(HCK.out W1 (by subst hb0;exact H.out.bl)).mono ?_;rintro e w1 ⟨rfl,hb1⟩;have H1:=jq (H.out.here hb1);clear hb1 HCK H
 by_cases h0:lc=0
 case neg=>
  rw[if_pos h0] at HRS;have hz:(lc !=0)=true:=by simp[h0]
  have c0:=H1.out.c 0 0 rfl rfl;have c1:=H1.out.c 0 1 rfl rfl;have f0:=H1.out.f 0 0 rfl;have f1:=H1.out.f 0 1 rfl;clear h0 HDI HRD;go_wp2_with fail
  refine bodyPost_ret (v:=.tuple #[.agg #[.string ⟨#[]⟩,.string ⟨#[]⟩],.bool false,.int .i64 lc]) (by simp[results,Tryz.results12,go_sem,c0,c1]) rfl ?_;rw[HPO.out,HRS.out];exact⟨rfl,((H1.out.set 0 0 rfl _).set 0 1 rfl _).bl⟩
 rw[if_neg (by simpa using h0)] at HRS;subst h0;obtain⟨⟨fr,z⟩,hdm⟩:∃q,dm=q:=⟨_,rfl⟩
 subst hdm;go_wp2_with fail
 refine(HRD.out w1 (by subst hb0;exact H1.out.bl)).mono ?_;rintro e w2 ⟨bm,rfl,hm2,_,hb2⟩;have H2:=jq (H1.out.here hb2);have HM2:=jq hm2;clear hb2 hm2 HRD H1;go_wp2_with fail
 refine(HDI.out bm w2 H2.out.pw HM2.out).mono ?_;rintro e w3 ⟨rfl,hb3⟩;have HK3:=jq ((H2.out.here hb3).new w3.1.size rfl (XG fr) 28);unfold XG at HK3;clear hb3 HDI H2 HM2;go_upto_region 5 with (fail)
 generalize w3.alloc _=W3 at*;generalize w3.1.size=b9 at*;have c0:=HK3.out.c 1 0 rfl rfl;have c1:=HK3.out.c 1 1 rfl rfl;have d0:=HK3.out.c 0 0 rfl rfl;have d1:=HK3.out.c 0 1 rfl rfl;have f0:=HK3.out.f 1 0 rfl;have f1:=HK3.out.f 1 1 rfl;go_wp2_with fail
 refine bodyPost_ret (v:=.tuple #[.agg #[.string ⟨fr.n.toArray⟩,.string ⟨fr.d.toArray⟩],.bool z,.int .i64 0]) (by simp[results,Tryz.results12,go_sem,c0,c1]) rfl ?_;rw[HPO.out,HRS.out];exact⟨rfl,((HK3.out.set 1 0 rfl _).set 1 1 rfl _).bl⟩
theorem Vr(A:Option Addr)(n c:Nat)(xs:List Fx)(d:Int)(a b:Ky)(w:World)(hp:Env w)(hs:Fxs w w.1.size A n xs)(hn:n<=100000)(hn2:n<=100\/1000<n)(ha:a.length<=maxLen)(hb:b.length<=maxLen):
 Calls Tryz.prog 16 #[.slice A n c,.string ⟨a.toArray⟩,.string ⟨b.toArray⟩,.int .i64 d] w (Zar (raR d (xs.map (·.1)) a b) w):=by
 have hof:raR d (xs.map (·.1)) a b=if QA (xs.map (·.1)) d [a,b]≠0 then(Fr.zero,QA (xs.map (·.1)) d [a,b]) else if Ys d (xs.map (·.1)) a b=[] then(Fr.zero,17) else(ZbQ (QP d (xs.map (·.1))) (Ys d (xs.map (·.1)) a b),0):=rfl
 have HQ:=jq (QC.mk' (c:=c) (d:=d) hp hs hn ha hb);have H:=jq ((Kp.start hp).new w.1.size rfl #[.string ⟨#[]⟩,.string ⟨#[]⟩] 28)
 have HRT:=jq (fun(h0:QA (xs.map (·.1)) d [a,b]=0) bm W (hW:Env W) (hB:PmB W bm (2*n) (fun p=>(QP d (xs.map (·.1)) p).map Qj))=>Jo bm (2*n) 42 (QP d (xs.map (·.1))) (cdL d (xs.map (·.1))) a b W hW hB (by
  have:=(QB h0).1.len
  rw[List.length_map] at this;have:=hs.len
  omega) (fun x hx=>by
   have:=ZbS (QB h0).1 x hx
   have h3:(3:Nat)<=maxLen:=by decide
   exact⟨Nat.le_trans this.1 h3,Nat.le_trans this.2 h3⟩) ha hb (XU _ _) (by decide) (by
  have:=(QB h0).1.len
  rw[List.length_map] at this;have:=hs.len
  omega) (fun x r hr=>(Zd9 (QB h0).1 hr).2.2.2.1) (fun s hs=>by
   have h3:(3:Nat)<=maxLen:=by decide
   rcases Zef (QB h0).1 hs with rfl|h
   ·exact ha
   ·omega))
 change Hid (∀(h0:QA (xs.map (·.1)) d [a,b]=0) bm W (hW:Env W) (hB:PmB W bm (2*n) (fun p=>(QP d (xs.map (·.1)) p).map Qj)),Calls Tryz.prog 51 #[.map (some bm),.string ⟨a.toArray⟩,.string ⟨b.toArray⟩] W (XZ (ZbQ (QP d (xs.map (·.1))) (Ys d (xs.map (·.1)) a b),decide (Ys d (xs.map (·.1)) a b≠[])) W)) at HRT
 have HCK:=jq HQ.out.chk;have HRD:=jq HQ.out.read;clear HQ;generalize raR d (xs.map (·.1)) a b=res at*;generalize QA (xs.map (·.1)) d [a,b]=lc at*;generalize ZbQ (QP d (xs.map (·.1))) (Ys d (xs.map (·.1)) a b)=fr at*;generalize Ys d (xs.map (·.1)) a b=l at*;generalize QP d (xs.map (·.1))=m at*;have HRS:=jq hof;have HPO:=jq (show Zar res w=fun e w'=>e=.returned (.tuple #[.agg #[.string ⟨res.1.n.toArray⟩,.string ⟨res.1.d.toArray⟩],.int .i64 res.2])/\Below w.1.size w w' from rfl);generalize Zar res w=post at*;clear hp hs ha hb hof;unfold XZ Qj S at HRT;go_enter Tryz.func16,Tryz.ntmps16
 go_upto_region 1 with (fail)
 obtain⟨b0,hb0⟩:∃b0,w.1.size=b0:=⟨_,rfl⟩
 rw[hb0] at H ⊢;generalize w.alloc _=W1 at*;go_wp2_with fail
 refine(HCK.out W1 (by subst hb0;exact H.out.bl)).mono ?_;rintro e w1 ⟨rfl,hb1⟩;have H1:=jq (H.out.here hb1);clear hb1 HCK H
 by_cases h0:lc=0
 case neg=>
  rw[if_pos h0] at HRS;have hz:(lc !=0)=true:=by simp[h0]
  have c0:=H1.out.c 0 0 rfl rfl;have c1:=H1.out.c 0 1 rfl rfl;have f0:=H1.out.f 0 0 rfl;have f1:=H1.out.f 0 1 rfl;clear h0 HRT HRD;go_wp2_with fail
  refine bodyPost_ret (v:=.tuple #[.agg #[.string ⟨#[]⟩,.string ⟨#[]⟩],.int .i64 lc]) (by simp[results,Tryz.results16,go_sem,c0,c1]) rfl ?_;rw[HPO.out,HRS.out];exact⟨rfl,((H1.out.set 0 0 rfl _).set 0 1 rfl _).bl⟩
 rw[if_neg (by simpa using h0)] at HRS;subst h0;replace HRT:=jq (HRT.out rfl);go_wp2_with fail
 refine(HRD.out w1 (by subst hb0;exact H1.out.bl)).mono ?_;rintro e w2 ⟨bm,rfl,hm2,_,hb2⟩;have H2:=jq (H1.out.here hb2);have HM2:=jq hm2;clear hb2 hm2 HRD H1;go_wp2_with fail
 refine(HRT.out bm w2 H2.out.pw HM2.out).mono ?_;rintro e w3 ⟨rfl,hb3⟩;have HK3:=jq ((H2.out.here hb3).new w3.1.size rfl (XG fr) 28);unfold XG at HK3;clear hb3 HRT H2 HM2
 have HDE:∃z,decide (l≠[])=z/\((z=false/\l=[])\/(z=true/\l≠[])):=by
  by_cases e:l=[]
  ·exact⟨false,by simp[e],.inl ⟨rfl,e⟩⟩
  ·exact⟨true,by simp[e],.inr ⟨rfl,e⟩⟩
 obtain⟨z,hz,hzl⟩:=HDE
 rw[hz];have HZ:=jq hzl;clear hz hzl;go_upto_region 5 with (fail)
 generalize w3.alloc _=W3 at*;generalize w3.1.size=b9 at*;have c0:=HK3.out.c 1 0 rfl rfl;have c1:=HK3.out.c 1 1 rfl rfl;have d0:=HK3.out.c 0 0 rfl rfl;have d1:=HK3.out.c 0 1 rfl rfl;have f0:=HK3.out.f 1 0 rfl;have f1:=HK3.out.f 1 1 rfl
 rcases HZ.out with ⟨rfl,hl⟩|⟨rfl,hl⟩
 ·rw[if_pos hl] at HRS;clear hl;go_wp2_with fail
  refine bodyPost_ret (v:=.tuple #[.agg #[.string ⟨#[]⟩,.string ⟨#[]⟩],.int .i64 17]) (by simp[results,Tryz.results16,go_sem,c0,c1]) rfl ?_;rw[HPO.out,HRS.out];exact⟨rfl,((HK3.out.set 1 0 rfl _).set 1 1 rfl _).bl⟩
 ·rw[if_neg hl] at HRS;clear hl;go_wp2_with fail
  refine bodyPost_ret (v:=.tuple #[.agg #[.string ⟨fr.n.toArray⟩,.string ⟨fr.d.toArray⟩],.int .i64 0]) (by simp[results,Tryz.results16,go_sem,c0,c1]) rfl ?_;rw[HPO.out,HRS.out];exact⟨rfl,((HK3.out.set 1 0 rfl _).set 1 1 rfl _).bl⟩
end
section
open Go.RowKit Go.Shelf
attribute [local go_sem] Oper.semAt_some
attribute [local go_sem ↓] Go.wp_at_zero Go.wp_at_succ
theorem ZaJ(A:Option Addr)(n c:Nat)(xs:List Fx)(d:Int)(a x b:Ky)(w:World)(hp:Env w)(hs:Fxs w w.1.size A n xs)(hn:n<=100000)(hn2:n<=100\/1000<n)(ha:a.length<=maxLen)(hx:x.length<=1000)(hb:b.length<=maxLen):
 Calls Tryz.prog 29 #[.slice A n c,.agg #[.string ⟨a.toArray⟩,.string ⟨x.toArray⟩],.string ⟨b.toArray⟩,.int .i64 d] w (Zb1 (coR d (xs.map (·.1)) a x b) w):=by
 have hof:coR d (xs.map (·.1)) a x b=if QA (xs.map (·.1)) d [a,b]≠0 then([],QA (xs.map (·.1)) d [a,b]) else if x≠Qb (val x) then([],1) else if Ys d (xs.map (·.1)) a b=[] then([],17) else(ZdA (QP d (xs.map (·.1))) (Ys d (xs.map (·.1)) a b) x,0):=rfl
 have HQ:=jq (QC.mk' (c:=c) (d:=d) hp hs hn ha hb);have H:=jq ((Kp.start hp).new w.1.size rfl #[.string ⟨a.toArray⟩,.string ⟨x.toArray⟩] 57);have HIC:=jq (ZdC x (by omega))
 have HRT:=jq (fun(h0:QA (xs.map (·.1)) d [a,b]=0) bm W (hW:Env W) (hB:PmB W bm (2*n) (fun p=>(QP d (xs.map (·.1)) p).map Qj))=>ZcQ bm (2*n) 42 (QP d (xs.map (·.1))) (cdL d (xs.map (·.1))) a x b W hW hB (by
  have:=(QB h0).1.len
  rw[List.length_map] at this;have:=hs.len
  omega) (fun x hx=>by
   have:=ZbS (QB h0).1 x hx
   have h3:(3:Nat)<=maxLen:=by decide
   exact⟨Nat.le_trans this.1 h3,Nat.le_trans this.2 h3⟩) ha hx hb (XU _ _) (by decide) (by
  have:=(QB h0).1.len
  rw[List.length_map] at this;have:=hs.len
  omega) (fun x r hr=>(Zd9 (QB h0).1 hr).2.2.2.1) (fun s hs=>by
   have h3:(3:Nat)<=maxLen:=by decide
   rcases Zef (QB h0).1 hs with rfl|h
   ·exact ha
   ·omega) (by
   have:=Zeg (v:=xs.map (·.1)) d a b
   rw[List.length_map,<-hs.len] at this;exact this))
 change Hid (∀(h0:QA (xs.map (·.1)) d [a,b]=0) bm W (hW:Env W) (hB:PmB W bm (2*n) (fun p=>(QP d (xs.map (·.1)) p).map Qj)),Calls Tryz.prog 63 #[.map (some bm),.agg #[.string ⟨a.toArray⟩,.string ⟨x.toArray⟩],.string ⟨b.toArray⟩] W (Zaq (ZdA (QP d (xs.map (·.1))) (Ys d (xs.map (·.1)) a b) x,decide (Ys d (xs.map (·.1)) a b≠[])) W)) at HRT
 have HCK:=jq HQ.out.chk;have HRD:=jq HQ.out.read;clear HQ;generalize coR d (xs.map (·.1)) a x b=res at*;generalize QA (xs.map (·.1)) d [a,b]=lc at*;generalize ZdA (QP d (xs.map (·.1))) (Ys d (xs.map (·.1)) a b) x=rr at*;generalize Ys d (xs.map (·.1)) a b=l at*;generalize QP d (xs.map (·.1))=m at*;have HRS:=jq hof;have HPO:=jq (show Zb1 res w=fun e w'=>e=.returned (.tuple #[.string ⟨res.1.toArray⟩,.int .i64 res.2])/\Below w.1.size w w' from rfl);generalize Zb1 res w=post at*
 have HXD:∃z:Int,(if x=Qb (val x) then(0:Int) else 1)=z/\((z=0/\x=Qb (val x))\/(z=1/\x≠Qb (val x))):=by
  by_cases e:x=Qb (val x)
  ·exact⟨0,if_pos e,.inl ⟨rfl,e⟩⟩
  ·exact⟨1,if_neg e,.inr ⟨rfl,e⟩⟩
 obtain⟨iz,hiz,hxz⟩:=HXD
 rw[hiz] at HIC;have HXZ:=jq hxz
 have HDE:∃z,decide (l≠[])=z/\((z=false/\l=[])\/(z=true/\l≠[])):=by
  by_cases e:l=[]
  ·exact⟨false,by simp[e],.inl ⟨rfl,e⟩⟩
  ·exact⟨true,by simp[e],.inr ⟨rfl,e⟩⟩
 obtain⟨z,hz,hzl⟩:=HDE
 rw[hz] at HRT;have HZ:=jq hzl;clear hp hs ha hx hb hof hiz hxz hz hzl;unfold Zaq S at HRT;unfold S at HIC;go_enter Tryz.func29,Tryz.ntmps29
 go_upto_region 1 with (fail)
 obtain⟨b0,hb0⟩:∃b0,w.1.size=b0:=⟨_,rfl⟩
 have HB0:=jq hb0;rw[hb0] at H ⊢;generalize w.alloc _=W1 at*;have c0:=H.out.c 0 0 rfl rfl;have c1:=H.out.c 0 1 rfl rfl;clear hb0;go_wp2_with fail
 refine(HCK.out W1 H.out.bl).mono ?_;rintro e w1 ⟨rfl,hb1⟩;have H1:=jq (H.out.here hb1);have d0:=H1.out.c 0 0 rfl rfl;have d1:=H1.out.c 0 1 rfl rfl;clear hb1 HCK H c0 c1
 by_cases h0:lc=0
 case neg=>
  rw[if_pos h0] at HRS;have hz:(lc !=0)=true:=by simp[h0]
  clear h0 HRT HRD;go_wp2_with fail
  first|go_ret2|skip
  rw[HPO.out,HRS.out];exact⟨rfl,H1.out.bl⟩
 rw[if_neg (by simpa using h0)] at HRS;subst h0;replace HRT:=jq (HRT.out rfl);go_wp2_with fail
 refine(HIC.out _ H1.out.pw).mono ?_;rintro e w2 ⟨rfl,hb2⟩;have H2:=jq (H1.out.here hb2);clear hb2 H1 HIC d0 d1
 rcases HXZ.out with ⟨rfl,hxe⟩|⟨rfl,hxe⟩
 case inr=>
  rw[if_pos hxe] at HRS;clear hxe;go_wp2_with fail
  first|go_ret2|skip
  rw[HPO.out,HRS.out];exact⟨rfl,H2.out.bl⟩
 rw[if_neg (by simpa using hxe)] at HRS;clear hxe;have d0:=H2.out.c 0 0 rfl rfl;have d1:=H2.out.c 0 1 rfl rfl;have hS:Hid (∀X,Bz w2 X->X.cell? ⟨b0,0,none⟩=some (.string ⟨a.toArray⟩)/\X.cell? ⟨b0,1,none⟩=some (.string ⟨x.toArray⟩)):=jq fun X hX=>have h:=H2.out.here hX;⟨h.c 0 0 rfl rfl,h.c 0 1 rfl rfl⟩
 have hE:Hid (∀X,Bz w2 X->Env X):=jq fun X hX=>(H2.out.here hX).pw
 have hB:Hid (∀X,Bz w2 X->Below w.1.size w X):=jq fun X hX=>(H2.out.here hX).bl
 have hz0:Bz w2 w2:=Bz.refl w2;go_wp2_with fail
 go_region_held3 (fun X=>X.cell? ⟨b0,0,none⟩=some (.string ⟨a.toArray⟩)/\X.cell? ⟨b0,1,none⟩=some (.string ⟨x.toArray⟩)) (first|(exact hS.out _ (by repeat' (first|assumption|exact Bz.refl _|refine Bz.drew ?_|refine Bz.alloc ?_ _|refine Bz.set ?_ (by first|assumption|exact Nat.le_refl _|exact Bz.size (by assumption)) _ _)))|go_keep)
  (first
    |(go_at_call 45;refine(HRD.out _ (hB.out _ (by repeat' (first|assumption|exact Bz.refl _|refine Bz.drew ?_|refine Bz.alloc ?_ _|refine Bz.set ?_ (by first|assumption|exact Nat.le_refl _|exact Bz.size (by assumption)) _ _)))).mono ?_;rintro e w6 ⟨bm,rfl,hm6,_,hb6⟩;have hz1:Bz w2 w6:=Bz.call (by repeat' (first|assumption|exact Bz.refl _|refine Bz.drew ?_|refine Bz.alloc ?_ _|refine Bz.set ?_ (by first|assumption|exact Nat.le_refl _|exact Bz.size (by assumption)) _ _)) hb6)
    |(go_at_call 63;refine(HRT.out _ _ (hE.out _ (by repeat' (first|assumption|exact Bz.refl _|refine Bz.drew ?_|refine Bz.alloc ?_ _|refine Bz.set ?_ (by first|assumption|exact Nat.le_refl _|exact Bz.size (by assumption)) _ _))) (by first|assumption|exact PmB.drew (by assumption))).mono ?_;rintro e w7 ⟨rfl,hb7⟩;have hz2:Bz w2 w7:=Bz.call (by repeat' (first|assumption|exact Bz.refl _|refine Bz.drew ?_|refine Bz.alloc ?_ _|refine Bz.set ?_ (by first|assumption|exact Nat.le_refl _|exact Bz.size (by assumption)) _ _)) hb7))
 all_goals
  rcases HZ.out with ⟨rfl,hl⟩|⟨rfl,hl⟩
  ·rw[if_pos hl] at HRS;clear hl;go_wp2_with fail
   first|go_ret2|skip
   rw[HPO.out,HRS.out];exact⟨rfl,hB.out _ (by repeat' (first|assumption|exact Bz.refl _|refine Bz.drew ?_|refine Bz.alloc ?_ _|refine Bz.set ?_ (by first|assumption|exact Nat.le_refl _|exact Bz.size (by assumption)) _ _))⟩
  ·rw[if_neg hl] at HRS;clear hl;go_wp2_with fail
   first|go_ret2|skip
   rw[HPO.out,HRS.out];exact⟨rfl,hB.out _ (by repeat' (first|assumption|exact Bz.refl _|refine Bz.drew ?_|refine Bz.alloc ?_ _|refine Bz.set ?_ (by first|assumption|exact Nat.le_refl _|exact Bz.size (by assumption)) _ _))⟩
end
section
open Go.RowKit Go.Shelf
attribute [local go_sem] Oper.semAt_some
attribute [local go_sem ↓] Go.wp_at_zero Go.wp_at_succ Qs QG Zfh ZiA
theorem ZgI(w:World):(buF #[(0,.string ⟨#[97]⟩),(3,.int .i64 10),(4,.int .i64 16),(7,.string ⟨#[69,85,82]⟩),(6,.string ⟨#[85,83,68]⟩),(13,.agg #[.string ⟨#[49,49]⟩,.string ⟨#[49,48]⟩])]).run Tryz.prog w=.ok (.agg (Qe (Zbh [97] 10 eur usd ⟨[49,49],[49,48]⟩) Qu)) w:=by
 kernel_rfl
theorem ZgJ(w:World):(buF #[(0,.string ⟨#[98]⟩),(3,.int .i64 10),(4,.int .i64 16),(7,.string ⟨#[85,83,68]⟩),(6,.string ⟨#[67,72,70]⟩),(13,.agg #[.string ⟨#[57]⟩,.string ⟨#[49,48]⟩])]).run Tryz.prog w=.ok (.agg (Qe (Zbh [98] 10 usd chf ⟨[57],[49,48]⟩) Qu)) w:=by
 kernel_rfl
theorem ZiB:∀f∈aw2,f.picks=[]/\f.options=[]/\f.Sz 1000:=by
 have h0:∀n:Nat,n<=3->n<=1000:=fun n h=>by omega
 intro f hf;simp only[aw2,List.mem_cons,List.mem_nil_iff,or_false] at hf
 rcases hf with rfl|rfl
 all_goals exact⟨rfl,rfl,h0 1 (by omega),h0 0 (by omega),h0 3 (by omega),h0 3 (by omega),h0 0 (by omega),h0 0 (by omega),h0 0 (by omega),h0 0 (by omega),⟨h0 0 (by omega),h0 0 (by omega)⟩,⟨by decide,h0 2 (by omega)⟩,⟨h0 0 (by omega),h0 0 (by omega)⟩,(fun _ h=>by cases h),(fun _ h=>by cases h),⟨by decide,by decide⟩,⟨by decide,by decide⟩,⟨by decide,by decide⟩,⟨by decide,by decide⟩⟩
theorem Zbi(w:World)(hp:Env w):Calls Tryz.prog 11 #[] w fun e w'=>e=.returned (.bool true)/\Below w.1.size w w':=by
 have H:=jq (Kp.start hp);have hbu1:=ZgI;have hbu2:=ZgJ;have hbs:(blF 2 #[(0,.agg (Qe (Zbh [97] 10 eur usd ⟨[49,49],[49,48]⟩) Qu)),(1,.agg (Qe (Zbh [98] 10 usd chf ⟨[57],[49,48]⟩) Qu))]).run Tryz.prog w=.ok (.slice (some ⟨w.1.size,0,none⟩) 2 2) (w.alloc (.cells ((vx aw2).flatMap YY).toArray 44)):=ZgE w (vx aw2) _ (by simp[vx,aw2]) (by decide) rfl;have H4:=jq (H.out.alloc (.cells ((vx aw2).flatMap YY).toArray 44));have HF4:=jq (ZgG w (vx aw2) (ZiV ZiB));have h3m:(3:Nat)<=maxLen:=by decide
 have HPA:=jq (fun W (hb:Below (w.alloc (.cells ((vx aw2).flatMap YY).toArray 44)).heap.size (w.alloc (.cells ((vx aw2).flatMap YY).toArray 44)) W)=>Jq (some ⟨w.1.size,0,none⟩) 2 2 (vx aw2) 10 eur chf W (H4.out.here hb).pw (HF4.out.here hb) (by omega) h3m h3m);have HCO:=jq (fun W (hb:Below (w.alloc (.cells ((vx aw2).flatMap YY).toArray 44)).heap.size (w.alloc (.cells ((vx aw2).flatMap YY).toArray 44)) W)=>ZaJ (some ⟨w.1.size,0,none⟩) 2 2 (vx aw2) 12 eur [50,53,48] chf W (H4.out.here hb).pw (HF4.out.here hb) (by omega) (.inl (by omega)) h3m (show(3:Nat)<=1000 by omega) h3m);rw[ZgH,ZhT] at HPA;rw[ZgH,ZhU] at HCO;unfold PaPost at HPA;unfold Zb1 at HCO
 dsimp only at HPA HCO
 rw[show([eur,usd,chf]:List Ky).length=3 from rfl] at HPA
 dsimp only[S,eur,chf,usd] at HPA HCO
 clear hp h3m HF4;go_enter Tryz.func11,Tryz.ntmps11
 go_wp2_with fail
 generalize w.alloc (.cells ((vx aw2).flatMap YY).toArray 44)=W4 at*;refine(HPA.out _ (Below.refl _ _)).mono ?_;rintro e w5 ⟨A5,c5,rfl,hs5,hb5⟩;have H5:=jq (H4.out.here hb5);have HB5:=jq hb5;have HS5:=jq hs5;clear hb5 hs5 HPA hbs hbu1 hbu2 H;go_wp2_with fail
 refine(HCO.out _ HB5.out).mono ?_;rintro e w6 ⟨rfl,hb6⟩;have H6:=jq (H5.out.here hb6);have HS6:=jq (Sl.here HS5.out hb6);clear hb6 HCO H5 HS5 H4 HB5;have hb7:Below w6.1.size w6 (w6.alloc (.cells #[.string ⟨#[69,85,82]⟩,.string ⟨#[85,83,68]⟩,.string ⟨#[67,72,70]⟩] 9)):=(Below.refl _ _).alloc (Nat.le_refl _) _
 have hs7:Vc (w6.alloc (.cells #[.string ⟨#[69,85,82]⟩,.string ⟨#[85,83,68]⟩,.string ⟨#[67,72,70]⟩] 9)) (w6.alloc (.cells #[.string ⟨#[69,85,82]⟩,.string ⟨#[85,83,68]⟩,.string ⟨#[67,72,70]⟩] 9)).heap.size (some ⟨w6.1.size,0,none⟩) 3 [[69,85,82],[85,83,68],[67,72,70]]:=by
  have h:=Sl.lit w6 #[.string ⟨#[69,85,82]⟩,.string ⟨#[85,83,68]⟩,.string ⟨#[67,72,70]⟩] 9 [[69,85,82],[85,83,68],[67,72,70]] rfl XY;rw[show(w6.alloc (.cells #[.string ⟨#[69,85,82]⟩,.string ⟨#[85,83,68]⟩,.string ⟨#[67,72,70]⟩] 9)).heap.size=w6.1.size+1 by simp];exact h
 have HEQ:=jq (Jr A5 (some ⟨w6.1.size,0,none⟩) 3 c5 3 [[69,85,82],[85,83,68],[67,72,70]] _ (Sl.here HS6.out hb7) hs7 (by omega));have H7:=jq (H6.out.here hb7);clear hb7 hs7 HS6 H6;go_wp2_with fail
 refine HEQ.out.mono ?_;rintro e w8 ⟨rfl,hb8⟩;go_wp2_with fail
 first|go_ret|skip
 exact⟨rfl,(H7.out.here hb8).bl⟩
end
section
open Go.RowKit Go.Shelf
attribute [local go_sem] Oper.semAt_some
attribute [local go_sem ↓] Go.wp_at_zero Go.wp_at_succ
def cuR(d:Int)(v:List Fct):List Ky×Int:=if QA v d []≠0 then([],QA v d []) else(cdL d v,0)
theorem Zas(A:Option Addr)(n c:Nat)(xs:List Fx)(d:Int)(w:World)(hp:Env w)(hs:Fxs w w.1.size A n xs)(hn:n<=100000):
 Calls Tryz.prog 25 #[.slice A n c,.int .i64 d] w (PaPost (cuR d (xs.map (·.1))) w):=by
 have hof:cuR d (xs.map (·.1))=if QA (xs.map (·.1)) d []≠0 then([],QA (xs.map (·.1)) d []) else(cdL d (xs.map (·.1)),0):=rfl
 have HCK:=jq (Jp A none n c 0 0 xs d [] w hp hs (by omega) Sl.nil (by omega) (fun s hs=>by cases hs));have H:=jq (Kp.start hp);have HRD:=jq (fun W (hW:Below w.1.size w W)=>Zab A n c xs d W (hp.here hW) (hs.here hW) hn)
 have HCO:=jq (fun(h0:QA (xs.map (·.1)) d []=0) bm W (hW:Env W) (hB:PmB W bm (2*n) (fun p=>(QP d (xs.map (·.1)) p).map Qj))=>Zbc bm (2*n) (QP d (xs.map (·.1))) W hW hB (by omega) (fun x hx=>by
  have:=ZbS (QB h0).1 x hx
  have h3:(3:Nat)<=maxLen:=by decide
  exact⟨Nat.le_trans this.1 h3,Nat.le_trans this.2 h3⟩))
 have HUN:=jq (fun(l:List Ky) (h1:l.Pairwise (·< ·)) (h2:∀a,a∈l↔∃y,(QP d (xs.map (·.1)) (a,y)).isSome=true)=>Zan (m:=QP d (xs.map (·.1))) ⟨h1,h2⟩ (XU d (xs.map (·.1))));generalize cuR d (xs.map (·.1))=res at*;generalize QA (xs.map (·.1)) d []=lc at*;generalize cdL d (xs.map (·.1))=l at*;generalize QP d (xs.map (·.1))=m at*;have HRS:=jq hof;generalize hpo:PaPost res w=post;have HPO:=jq hpo;clear hp hs hof hpo
 by_cases h0:lc=0
 case neg=>
  rw[if_pos h0] at HRS;have hz:(lc !=0)=true:=by simp[h0]
  clear h0 HCO HUN HRD;go_enter Tryz.func25,Tryz.ntmps25
  go_wp2_with fail
  refine HCK.out.mono ?_;rintro e w1 ⟨rfl,hb1⟩;go_wp2_with fail
  first|go_ret2|skip
  rw[<-HPO.out,HRS.out];exact PaPost.nil _ hb1
 rw[if_neg (by simpa using h0)] at HRS;subst h0;replace HCO:=jq (HCO.out rfl);go_enter Tryz.func25,Tryz.ntmps25
 go_wp2_with fail
 refine HCK.out.mono ?_;rintro e w1 ⟨rfl,hb1⟩;have H1:=jq (H.out.here hb1);clear hb1 HCK H;go_wp2_with fail
 refine(HRD.out w1 H1.out.bl).mono ?_;rintro e w2 ⟨bm,rfl,hm2,_,hb2⟩;have H2:=jq (H1.out.here hb2);have HM2:=jq hm2;clear hb2 hm2 HRD H1;go_wp2_with fail
 refine(HCO.out bm w2 H2.out.pw HM2.out).mono ?_;rintro e w3 ⟨A3,c3,l3,rfl,ho3,h1,h2,_,hb3⟩;obtain rfl:=HUN.out l3 h1 h2;have H3:=jq (H2.out.here hb3);have HS3:=jq (ho3.sl XY);clear hb3 ho3 h1 h2 HUN HCO H2 HM2;go_wp2_with fail
 first|go_ret2|skip
 rw[<-HPO.out,HRS.out];exact⟨A3,c3,rfl,HS3.out,H3.out.bl⟩
end
section
open Go
theorem Zat(d:Int):∀(v:List Fct) (o:Ky×Ky->Option Fr),(v.filter (fun f=>decide (f.day<=d))).foldl (Yf d) o=v.foldl (Yf d) o
 |[],_=>rfl
 |f::v,o=>by
  rw[List.filter_cons]
  split
  ·rw[List.foldl_cons,List.foldl_cons,Zat d v]
  ·rename_i h
   rw[List.foldl_cons,Zat d v]
   have e:Yf d o f=o:=by
    unfold Yf isR;rw[if_neg];intro h2;rw[Bool.and_eq_true] at h2;exact h h2.2
   rw[e]
theorem ZcX(d:Int)(v:List Fct):QP d (v.filter (fun f=>decide (f.day<=d)))=QP d v:=by
 funext p
 unfold QP Jv;rw[Zat]
theorem ZcY(d:Int)(v:List Fct):cdL d (v.filter (fun f=>decide (f.day<=d)))=cdL d v:=
 Zan (m:=QP d v) (by rw[<-ZcX];exact XU _ _) (XU d v)
theorem ZgM{v u:List Fct}(h:VwOk v)(hs:u.Sublist v):VwOk u:=⟨Nat.le_trans hs.length_le h.len,fun f hf=>h.chk f (hs.subset hf),h.dk.sublist hs,h.srt.sublist hs⟩
structure TimL (d:Int) (v u:List Fct) (a b:Ky):Prop where
 rate:raR d u a b=raR d v a b
 curr:cuR d u=cuR d v
 len:u.length<=v.length/\v.length<=1000/\(cuR d v).1.length<=2000
theorem Zbj{d:Int}{v:List Fct}(h:Va v=0)(cs:List Ky):QA (v.filter (fun f=>decide (f.day<=d))) d cs=QA v d cs:=by
 have h2:Va (v.filter (fun f=>decide (f.day<=d)))=0:=(Ye _).2 (ZgM ((Ye v).1 h) List.filter_sublist);unfold QA;rw[h,h2]
theorem ZeX{d:Int}{v:List Fct}(a b:Ky)(h:(XF v d).2=0):TimL d v (XF v d).1 a b:=by
 have h0:Va v=0:=by
  unfold XF at h
  by_cases e:Va v=0
  ·exact e
  ·rw[if_pos e] at h;cases h
 have h1:¬(d< -25567\/84005<d):=by
  unfold XF at h;rw[if_neg (by simpa using h0)] at h;intro e
  rw[if_pos e] at h;cases h
 have e:(XF v d).1=v.filter (fun f=>decide (f.day<=d)):=by
  unfold XF;rw[if_neg (by simpa using h0),if_neg h1]
 rw[e];have hl:=((Ye v).1 h0).len;refine⟨?_,?_,List.length_filter_le _ _,hl,?_⟩
 rotate_left 2
 ·unfold cuR
  split
  ·simp
  ·have:=Zeb d v
   show(cdL d v).length<=2000
   omega
 ·unfold raR Ys;rw[Zbj h0,ZcX,ZcY]
 ·unfold cuR;rw[Zbj h0,ZcY]
end
end Go.Proofs.YtokjnjdbnabchaaGreatDoor
