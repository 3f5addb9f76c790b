/- Gd, Fp1, Fp2, Fp3, Fp4, Fp5, Fp6, Cf. -/
import Derived.Test.YtmfjmngebldanaaGreatDoorQGVe4
import Derived.Laws.EntriesVeiled
set_option maxRecDepth 100000
set_option maxHeartbeats 1000000
namespace Go.Proofs.YtmfjmngebldanaaGreatDoor
open Go.Lib renaming hid→jq
open Go.RowKit Go.Shelf
section
attribute [local go_sem] Oper.semAt_some
theorem ZhJ(A A':Option Addr)(n c n' c':Nat)(w:World):Calls Tryz.prog 255 #[.slice A n c,.slice A' n' c'] w fun e w'=>e=.returned (.func (.func 277) #[] #[.pointer (some ⟨w.1.size,0,none⟩),.pointer (some ⟨w.1.size+1,0,none⟩)])/\(w.alloc (.cells #[.slice A n c] 197)).alloc (.cells #[.slice A' n' c'] 197)=w':=by
 go_enter Tryz.func255,Tryz.ntmps255
 go_wp2
 go_ret
 exact⟨rfl,rfl⟩
theorem Zg0(W:World)(b:Bool)(A:Option Addr)(n c:Nat):(Instr.field 199 (.agg #[.bool b,.slice A n c]) 1).run Tryz.prog W=.ok (.slice A n c) W:=by
 kernel_rfl
theorem Zg1(a b:List UInt8):Nat.gcd (Qh (Qf a).1) (Qh (Qf b).1)=Int.gcd (val a) (val b):=by
 unfold Int.gcd val
 split<;>split<;>simp
theorem Zlx(a b:List UInt8)(w:World)(hp:Pow w)(ha:a.length<=100000)(hb:b.length<=100000):Calls Tryz.prog 229 #[S a,S b] w (QD (Qe (Int.gcd (val a) (val b):Nat)) w):=by
 have HRa:=jq (fun W=>Xm a W (by omega));have HRb:=jq (fun W=>Xm b W (by omega));obtain⟨K,hK⟩:∃K:Nat,K=100000:=⟨_,rfl⟩
 have hva:=Qw (show a.length<=K by omega);have hvb:=Qw (show b.length<=K by omega);have HK:=jq hK;clear hK;have HPO:=jq (show QD (Qe (Int.gcd (val a) (val b):Nat)) w=fun e w'=>e=.returned (S (Qe (Int.gcd (val a) (val b):Nat)))/\Below w.1.size w w' from rfl);have HGV:=jq (Zg1 a b);unfold XL at HRa HRb;have HVA:=jq hva;have HVB:=jq hvb;have HP:=jq hp;generalize QD (Qe (Int.gcd (val a) (val b):Nat)) w=post at*;generalize Int.gcd (val a) (val b)=G at*;generalize (Qf a).2=na at*;generalize (Qf b).2=nb at*;generalize Qh (Qf a).1=u at*;generalize Qh (Qf b).1=v at*;clear ha hb hva hvb hp;unfold S at*
 refine(callsIn_wide (n:=5)).1 ?_;refine callsIn_of_wp_marks Tryz.func229 rfl trivial ?_ rfl;simp only[Tryz.ntmps229,List.size_toArray,List.length_cons,List.length_nil,Nat.reduceAdd,Nat.reduceSub,Array.replicate_succ,Array.replicate_zero,List.push_toArray,List.append_toArray,List.nil_append,List.cons_append]
 gi_wp2_with fail
 refine⟨trivial,?_⟩;have bO0:=Box.new w 197 (.slice none 0 0);have hb0:Below w.1.size w (w.alloc (.cells #[.slice none 0 0] 197)):=(Below.refl _ _).alloc (Nat.le_refl _) _;generalize w.alloc _=W0 at*;refine(callsIn_wide.2 (HRa.out W0)).mono ?_;rintro e w1 ⟨A1,n1,c1,xs,rfl,ho1,mg1,hb1⟩;have HO1:=jq ho1;have HM1:=jq mg1;clear ho1 mg1 HRa;have hf1:=Zg0 w1 na A1 n1 c1
 gi_wp2_with fail
 refine⟨trivial,?_⟩;refine(callsIn_wide.2 (HRb.out w1)).mono ?_;rintro e w2 ⟨A2,n2,c2,ys,rfl,ho2,mg2,hb2⟩;have HO2:=jq ho2;have HM2:=jq mg2;clear ho2 mg2 HRb hf1;have hf2:=Zg0 w2 nb A2 n2 c2;have HX1:=jq ((HO1.out.below hb2).sl Qo);have HX2:=jq (HO2.out.sl Qo);have HL1:=jq (show n1<=K by rw[HX1.out.1];exact HM1.out.len HVA.out);have HL2:=jq (show n2<=K by rw[HX2.out.1];exact HM2.out.len HVB.out);have hcap1:n1<=c1:=by obtain⟨h1,h2,_⟩:=HO1.out.facts;omega
 have hcap2:n2<=c2:=by obtain⟨h1,h2,_⟩:=HO2.out.facts;omega
 have bO2:=(bO0.here hb1).here hb2;have hb02:=hb0.trans ((hb1.trans (hb2.mono hb1.size)).mono hb0.size);have hlt:w.1.size<w2.1.size:=bO2.lt
 gi_wp2_with fail
 refine⟨trivial,?_⟩;refine(callsIn_wide.2 (ZhJ A1 A2 n1 c1 n2 c2 w2)).mono ?_;rintro e w3 ⟨rfl,rfl⟩;have hbA:Below w2.1.size w2 ((w2.alloc (.cells #[.slice A1 n1 c1] 197)).alloc (.cells #[.slice A2 n2 c2] 197)):=((Below.refl _ _).alloc (Nat.le_refl _) _).alloc (by simp) _;have bm:Box ((w2.alloc (.cells #[.slice A1 n1 c1] 197)).alloc (.cells #[.slice A2 n2 c2] 197)) w2.1.size 197 (.slice A1 n1 c1):=(Box.new w2 _ _).alloc _
 have bn:Box ((w2.alloc (.cells #[.slice A1 n1 c1] 197)).alloc (.cells #[.slice A2 n2 c2] 197)) (w2.1.size+1) 197 (.slice A2 n2 c2):=by
  have:=Box.new (w2.alloc (.cells #[.slice A1 n1 c1] 197)) 197 (.slice A2 n2 c2)
  simpa using this
 have bO3:=bO2.here hbA;have HE:=jq (show EuSt G w2.1.size (w2.1.size+1) A1 A2 n1 c1 n2 c2 xs ys u v _ from⟨bm,bn,HX1.out.here hbA,HX2.out.here hbA,HM1.out,HM2.out,HGV.out,by have:=HL1.out;have:=HK.out;omega,by have:=HL2.out;have:=HK.out;omega,hcap1,hcap2⟩);have hb03:=hb02.trans (hbA.mono hb02.size);have hsz3:w2.1.size+2=((w2.alloc (.cells #[.slice A1 n1 c1] 197)).alloc (.cells #[.slice A2 n2 c2] 197)).heap.size:=by simp
 clear bm bn hbA HX1 HX2 HO1 HO2 hb1 hb2 bO0 bO2 hb0 hb02
 gi_wp2_with fail
 generalize (w2.alloc (.cells #[.slice A1 n1 c1] 197)).alloc (.cells #[.slice A2 n2 c2] 197)=W3 at*;have HSZ:=jq hsz3;clear hsz3 hf2;have h3:=HSZ.out
 refine JJ (F:=Fence.wide) (n:=5) rfl (by omega) (gf:=277) (lb:=#[.pointer (some ⟨w2.1.size,0,none⟩),.pointer (some ⟨w2.1.size+1,0,none⟩)]) rfl trivial (enters_of Tryz.func277 (by kernel_rfl) rfl)
  w.1.size (by omega) (Kp2 w2.1.size (w2.1.size+1)) (EuT G) (fun A B h b hb1 hb2=>h.2 b hb2 (by omega) (by omega)) (.slice none 0 0) ?hseq rfl
  (fun s W=>Box W w.1.size 197 s/\(∃B m c,s=.slice B m c)/\Below w.1.size w W)
  (fun s A B ⟨h1,h2,h3⟩ hk=>⟨hk.box h1 (by omega) (by omega),h2,hk.under h3 (by have:=h3.size;omega) (by omega) (by omega)⟩)
  (fun s A ⟨h1,h2,_⟩=>⟨_,s,h1,h2⟩)
  (fun s A B l hl ⟨h1,h2,h3⟩ hk=>⟨hk.box h1 (by omega) (by omega),h2,hk.under h3 (by have:=h3.size;omega) (by omega) (by omega)⟩)
  ⟨bO3,⟨_,_,_,rfl⟩,hb03⟩
  (fun x y=>{tmps:=#[.string ⟨a.toArray⟩,.string ⟨b.toArray⟩,undef,undef,.string ⟨#[]⟩,.pointer (some ⟨w.1.size,0,none⟩),x,.string ⟨a.toArray⟩,.agg #[.bool na,.slice A1 n1 c1],.slice A1 n1 c1,.string ⟨b.toArray⟩,.agg #[.bool nb,.slice A2 n2 c2],.slice A2 n2 c2,.func (.func 277) #[] #[.pointer (some ⟨w2.1.size,0,none⟩),.pointer (some ⟨w2.1.size+1,0,none⟩)],x,y,undef,undef,undef,undef],defers:=[]})
  ?assign ?body ?done
 case hseq=>
  intro l J W hl hbW hJi hJl hJb hY h0;have hE:=HE.out.here hbW;exact ZhI 4 (by omega) G l w.1.size w2.1.size (w2.1.size+1) J (by omega) (by omega) (by omega) (by omega) (by omega) hJi hJl hJb hY (.slice none 0 0) W h0 A1 A2 n1 c1 n2 c2 xs ys u v hE
 case assign=>
  intro l x y W K hK
  gi_wp2
  exact hK
 case body=>
  rintro l s B m c y W hl ⟨hbx,hs,hbl⟩;have c0:=hbx.cell;have f0:=hbx.frozen
  gi_wp2
  exact⟨(Kp2.refl w.1.size w.1.size W).set1 0 _,hbx.set_ _,hbl.setCell (p:=⟨w.1.size,0,none⟩) (Nat.le_refl _) _⟩
 case done=>
  rintro D s W W0 hD ⟨hbx,hs,hbl⟩ ⟨A5,n5,c5,zs,rfl,hg5,mg5,hc5,hn5⟩ hk ⟨r,hr⟩ hK;have c0:=hbx.cell;have hg:=hg5.kp2 hk (fun o x=>ZaV hr o x) (fun o x=>ZaV hr o x);have HTX:=jq (YQ false A5 n5 c5 zs W hg mg5.gs hc5 (by omega) (HP.out.here hbl));rw[mg5.val,XX,show sv false G=(G:Int) from rfl] at HTX;unfold S at HTX;clear hg hg5 mg5 h3
  gi_wp2_with fail
  refine⟨trivial,?_⟩;refine(callsIn_wide.2 HTX.out).mono ?_;rintro e w6 ⟨rfl,hb6⟩;have hK6:w6.heap[D]?=some (.deferred (some [])):=(hb6.block D (Array.getElem?_eq_some_iff.1 hK).1).trans hK;have hb06:=hbl.trans (hb6.mono hbl.size)
  gi_wp2
  refine⟨by simp,.inl ⟨_,_,rfl,run_takeDeferred hK6,?_⟩⟩;refine⟨_,results_tmp rfl _ _ _,?_⟩;rw[HPO.out];refine⟨rfl,?_⟩;exact hb06.grown (grownBy_putObj' w6 D (.deferred none)) (by have:=hb06.size;omega) (fun r e=>by cases e;have:=HSZ.out;omega)
end
section
def Xg(f:Fr):Value:=.agg #[S f.n,S f.d]
def FrB(w:World)(p:Nat)(f:Fr):Prop:=w.heap[p]?=some (.cells #[S f.n,S f.d] 39 (0,0))
section
variable {w w':World} {p:Nat} {f:Fr}
theorem FrB.lt(h:FrB w p f):p<w.1.size:=(Array.getElem?_eq_some_iff.1 h).1
theorem FrB.cells(h:FrB w p f):w.cell? ⟨p,0,none⟩=some (.string ⟨f.n.toArray⟩)/\w.cell? ⟨p,1,none⟩=some (.string ⟨f.d.toArray⟩):=
 ⟨cell_of_row w p 0 _ 39 (0,0) h,cell_of_row w p 1 _ 39 (0,0) h⟩
theorem FrB.frozen(h:FrB w p f)(j:Nat):w.frozen? ⟨p,j,none⟩=false:=by
 unfold FrB at h;simp[World.frozen?,h]
theorem FrB.below{N:Nat}(h:FrB w p f)(hb:Below N w w')(hg:p<N):FrB w' p f:=(hb.block p hg).trans h
theorem FrB.here(h:FrB w p f)(hb:Below w.1.size w w'):FrB w' p f:=h.below hb h.lt
theorem FrB.new(w:World)(f:Fr):FrB (w.alloc (.cells #[.string ⟨f.n.toArray⟩,.string ⟨f.d.toArray⟩] 39)) w.1.size f:=heap_alloc_new w _
theorem FrB.alloc(h:FrB w p f)(o:Obj):FrB (w.alloc o) p f:=(Below.heap_alloc w o p h.lt).trans h
theorem FrB.far(h:FrB w p f){a:Addr}(hp:p≠a.block)(u:Value):FrB (w.setCell a u) p f:=(Below.heap_setCell w a u p hp).trans h
end
def QS(f:Fr)(w:World)(e:Ending)(w':World):Prop:=e=.returned (Xg f)/\Below w.1.size w w'
def XF(x y:List UInt8)(w:World)(e:Ending)(w':World):Prop:=e=.returned (.tuple #[S x,S y])/\Below w.1.size w w'
theorem ZbE{a b:Int}(hb:b≠0){w w':World}{e:Ending}(h:Xb a b w e w'):e=.returned (.tuple #[.string ⟨(Qe (a.fdiv b)).toArray⟩,.string ⟨(Qe (a.fmod b)).toArray⟩,.int .i64 0])/\Below w.1.size w w':=by
 unfold Xb at h;rw[if_neg hb] at h;exact h
theorem Zg2(n:Int){d:List UInt8}(hd:val d≠0):(Qe (Int.gcd n (val d):Nat)).length<=d.length+1:=by
 refine QP ?_;have h1:=JS d;have h2:Int.gcd n (val d)<=(val d).natAbs:=Nat.le_of_dvd (by omega) (Nat.gcd_dvd_right _ _);simp
 omega
theorem ZeK(n d:List UInt8)(w:World)(hp:Pow w)(hn:n.length<=50000)(hd:d.length<=50000)(hd0:val d≠0):
 Calls Tryz.prog 196 #[S n,S d] w (XF (Qe (Rat.divInt (val n) (val d)).num) (Qe (Rat.divInt (val n) (val d)).den) w):=by
 have HCM:=jq (Vb d [] w (by omega) (by simp));rw[show val ([]:List UInt8)=0 from VA,Int.sub_zero] at HCM;have HPO:=jq (show XF (Qe (Rat.divInt (val n) (val d)).num) (Qe (Rat.divInt (val n) (val d)).den) w=fun e w'=>e=.returned (.tuple #[S (Qe (Rat.divInt (val n) (val d)).num),S (Qe (Rat.divInt (val n) (val d)).den)])/\Below w.1.size w w' from rfl);have HN:=jq hn;have HD:=jq hd;have HP:=jq hp;have HNEG:=jq (Rat.neg_divInt_neg (val n) (val d));generalize XF (Qe (Rat.divInt (val n) (val d)).num) (Qe (Rat.divInt (val n) (val d)).den) w=post at*;generalize hq:Rat.divInt (val n) (val d)=q at*;have HQ:=jq hq;clear hn hd hp hq;unfold S at*
 go_enter Tryz.func196,Tryz.ntmps196
 go_wp2_with fail
 refine HCM.out.mono ?_;rintro e w1 ⟨rfl,hb1⟩;go_upto_if 9 with (fail)
 go_cut [0,1] (fun s t wc=>∃n1 d1:List UInt8,s=.string ⟨n1.toArray⟩/\t=.string ⟨d1.toArray⟩/\Hid (0<val d1)/\Hid (Rat.divInt (val n1) (val d1)=q)/\Hid (n1.length<=50001)/\Hid (d1.length<=50001)/\Below w.1.size w wc)
 case first=>
  by_cases hneg:val d<0
  ·have hs:QM (val d)= -1:=by unfold QM;rw[if_pos hneg]
   have HNA:=jq (ZgX n w1 (HP.out.here hb1) (by have:=HN.out;omega));have HND:=jq (fun W (hb:Below w1.1.size w1 W)=>ZgX d W ((HP.out.here hb1).here hb) (by have:=HD.out;omega));unfold S at HNA HND;rw[hs];go_wp2_with fail
   refine HNA.out.mono ?_;rintro e w2 ⟨rfl,hb2⟩;go_wp2_with fail
   refine(HND.out w2 hb2).mono ?_;rintro e w3 ⟨rfl,hb3⟩;have hb13:=hb1.trans ((hb2.trans (hb3.mono hb2.size)).mono hb1.size);go_wp2_with fail
   go_meet
   refine⟨Qe (-val n),Qe (-val d),rfl,rfl,?_,?_,?_,?_,hb13⟩
   ·show _<_;rw[Qm];omega
   ·show _=_;rw[Qm,Qm,HNEG.out]
   ·show _<=_;have:=HN.out;have:=QP (n:= -val n) (L:=n.length) (by have:=JS n;omega);omega
   ·show _<=_;have:=HD.out;have:=QP (n:= -val d) (L:=d.length) (by have:=JS d;omega);omega
  ·have hs:QM (val d)=1:=by unfold QM;rw[if_neg hneg,if_pos (by omega)]
   rw[hs];go_wp2_with fail
   go_meet
   exact⟨n,d,rfl,rfl,by show _<_;omega,HQ,by show _<=_;have:=HN.out;omega,by show _<=_;have:=HD.out;omega,hb1⟩
 case rest=>
 clear HNEG HCM HQ HN HD hb1;obtain⟨n1,d1,rfl,rfl,H0,HQ,HN,HD,hb1⟩:=hcut
 obtain⟨w2,rfl⟩:∃W,W=wc:=⟨_,rfl⟩
 have HGC:=jq (Zlx n1 d1 w2 (HP.out.here hb1) (by have:=HN.out;omega) (by have:=HD.out;omega));have HGL:=jq (Zg2 (val n1) (d:=d1) (by have:=H0.out;omega));have HGP:=jq (ZgR (val n1) (val d1) (by have:=H0.out;omega));have HR1:=jq (ZgP (val n1) (val d1) H0.out);have HR2:=jq (ZgQ (val n1) (val d1) H0.out);rw[HQ.out] at HR1 HR2;generalize Int.gcd (val n1) (val d1)=g at*;have HV1:=jq (fun W (hb:Below w2.1.size w2 W)=>ZgZ n1 (Qe (g:Int)) W ((HP.out.here hb1).here hb) (by have:=HN.out;omega) (by have:=HGL.out;have:=HD.out;omega));have HV2:=jq (fun W (hb:Below w2.1.size w2 W)=>ZgZ d1 (Qe (g:Int)) W ((HP.out.here hb1).here hb) (by have:=HD.out;omega) (by have:=HGL.out;have:=HD.out;omega));rw[Qm] at HV1 HV2;unfold S at HGC HV1 HV2;go_wp2_with fail
 refine HGC.out.mono ?_;rintro e w3 ⟨rfl,hb3⟩;go_wp2_with fail
 refine(HV1.out w3 hb3).mono ?_;intro e w4 h4;obtain⟨rfl,hb4⟩:=ZbE (by have:=HGP.out;omega) h4
 have hb34:=hb3.trans (hb4.mono hb3.size);clear h4;rw[HR1.out];go_wp2_with fail
 refine(HV2.out w4 hb34).mono ?_;intro e w5 h5;obtain⟨rfl,hb5⟩:=ZbE (by have:=HGP.out;omega) h5
 have hb35:=hb34.trans (hb5.mono hb34.size);clear h5;rw[HR2.out];go_wp2_with fail
 rw[HPO.out];exact⟨rfl,hb1.trans (hb35.mono hb1.size)⟩
end
section
theorem Zat:Qe 1=[49]:=by
 rw[show(1:Int)=((1:Nat):Int) from rfl,ZbS];unfold QU;rw[if_neg (by omega),Lib.decDigits,dif_pos (by omega)];decide
theorem VE:val [49]=1:=by rw[<-Zat,Qm]
theorem Zb1(n d:List UInt8)(w:World)(hp:Pow w)(hn:n.length<=50000)(hd:d.length<=50000)(hd0:val d≠0):
 Calls Tryz.prog 165 #[S n,S d] w (QS (QJ (Rat.divInt (val n) (val d))) w):=by
 have hbA:Below w.1.size w (w.alloc (.cells #[.string ⟨#[]⟩,.string ⟨#[]⟩] 39)):=(Below.refl _ _).alloc (Nat.le_refl _) _;have HRD:=jq (ZeK n d (w.alloc (.cells #[.string ⟨#[]⟩,.string ⟨#[]⟩] 39)) (hp.here hbA) hn hd hd0);have HPO:=jq (show QS (QJ (Rat.divInt (val n) (val d))) w=fun e w'=>e=.returned (Xg (QJ (Rat.divInt (val n) (val d))))/\Below w.1.size w w' from rfl);have HB:=jq (show FrB (w.alloc (.cells #[.string ⟨#[]⟩,.string ⟨#[]⟩] 39)) w.1.size Fr.zero from FrB.new w Fr.zero);have HBA:=jq hbA;generalize QS (QJ (Rat.divInt (val n) (val d))) w=post at*;generalize Rat.divInt (val n) (val d)=q at*;clear hn hd hp hd0 hbA;unfold S at*
 go_enter Tryz.func165,Tryz.ntmps165
 go_wp2_with fail
 generalize w.alloc _=W at*;refine HRD.out.mono ?_;rintro e w1 ⟨rfl,hb1⟩;unfold S;have HB1:=jq (HB.out.here hb1);obtain⟨c0,c1⟩:=HB1.out.cells
 have f0:=HB1.out.frozen 0;have f1:=HB1.out.frozen 1;have hb01:=HBA.out.trans (hb1.mono HBA.out.size)
 by_cases h1:q.den=1
 ·have HF:=jq (show Xg (QJ q)=.agg #[.string ⟨(Qe q.num).toArray⟩,.string ⟨#[]⟩] by unfold Xg QJ;simp only[if_pos h1];rfl);rw[show Qe (q.den:Int)=[49] by rw[h1];exact Zat];clear h1;go_wp2_with fail
  refine bodyPost_ret (v:=.agg #[.string ⟨(Qe q.num).toArray⟩,.string ⟨#[]⟩]) (by simp[results,Tryz.results165,go_sem,c0,c1]) rfl ?_;rw[HPO.out,HF.out];exact⟨rfl,(hb01.setCell (p:=⟨w.1.size,0,none⟩) (Nat.le_refl _) _).setCell (p:=⟨w.1.size,1,none⟩) (Nat.le_refl _) _⟩
 ·have HF:=jq (show Xg (QJ q)=.agg #[.string ⟨(Qe q.num).toArray⟩,.string ⟨(Qe q.den).toArray⟩] by unfold Xg QJ;simp only[if_neg h1];rfl)
  have hne:(Qe (q.den:Int)==[49])=false:=by
   rw[Bool.eq_false_iff];intro h;have h:=eq_of_beq h;exact h1 (by rw[<-Zat] at h;have:=ZiX h;omega)
  clear h1;generalize Qe (q.den:Int)=t at*;go_wp2_with fail
  refine bodyPost_ret (v:=.agg #[.string ⟨(Qe q.num).toArray⟩,.string ⟨t.toArray⟩]) (by simp[results,Tryz.results165,go_sem,c0,c1]) rfl ?_;rw[HPO.out,HF.out];exact⟨rfl,(hb01.setCell (p:=⟨w.1.size,0,none⟩) (Nat.le_refl _) _).setCell (p:=⟨w.1.size,1,none⟩) (Nat.le_refl _) _⟩
def Fr.dt(f:Fr):List UInt8:=if val f.d=0 then[49] else f.d
theorem Fr.val_dt(f:Fr):val f.dt=f.dv:=by
 unfold Fr.dt Fr.dv
 split
 ·exact VE
 ·rfl
theorem Fr.dt_len{f:Fr}{L:Nat}(h:f.d.length<=L)(hL:1<=L):f.dt.length<=L:=by
 unfold Fr.dt
 split
 ·exact hL
 ·exact h
theorem Jw(f:Fr)(w:World)(hd:f.d.length<=100000):Calls Tryz.prog 163 #[Xg f] w (XF f.n f.dt w):=by
 have hbA:Below w.1.size w (w.alloc (.cells #[.string ⟨f.n.toArray⟩,.string ⟨f.d.toArray⟩] 39)):=(Below.refl _ _).alloc (Nat.le_refl _) _;have HCM:=jq (Vb f.d [] (w.alloc (.cells #[.string ⟨f.n.toArray⟩,.string ⟨f.d.toArray⟩] 39)) hd (by simp));rw[show val ([]:List UInt8)=0 from VA,Int.sub_zero] at HCM;have HPO:=jq (show XF f.n f.dt w=fun e w'=>e=.returned (.tuple #[S f.n,S f.dt])/\Below w.1.size w w' from rfl);have HB:=jq (FrB.new w f);have HBA:=jq hbA;generalize XF f.n f.dt w=post at*;obtain⟨c0,c1⟩:=HB.out.cells
 clear hbA hd;unfold S Xg at*
 unfold S;go_enter Tryz.func163,Tryz.ntmps163
 go_wp2_with fail
 generalize w.alloc _=W at*;refine HCM.out.mono ?_;rintro e w1 ⟨rfl,hb1⟩;have HB1:=jq (HB.out.here hb1);clear c0 c1;obtain⟨c0,c1⟩:=HB1.out.cells
 have hb01:=HBA.out.trans (hb1.mono HBA.out.size)
 by_cases h0:val f.d=0
 ·have hs:(QM (val f.d)==0)=true:=by rw[h0];rfl
  rw[show f.dt=[49] by unfold Fr.dt;rw[if_pos h0]] at HPO;clear h0;go_wp2_with fail
  rw[HPO.out];exact⟨rfl,hb01⟩
 ·have hs:(QM (val f.d)==0)=false:=by unfold QM;(repeat' split)<;>simp<;>omega
  rw[show f.dt=f.d by unfold Fr.dt;rw[if_neg h0]] at HPO;clear h0;go_wp2_with fail
  go_quiet (fail)
  go_wp2_with fail
  rw[HPO.out];exact⟨rfl,JI hb01 _⟩
end
section
structure FOp (g:Nat) (F:Int->Int->Int->Int->Int×Int):Prop where
 enters:∀args w,(callFunc g args).run Tryz.prog w=.ok (.enter g args) w
 calls:∀(a b c d:List UInt8) (p:Nat) (W:World),p<W.1.size->W.cell? ⟨p,0,none⟩=some (.func (.func 222) #[] #[])->Pow W->a.length<=20000->b.length<=20000->c.length<=20000->d.length<=20000->
  Calls Tryz.prog g #[S a,S b,S c,S d,.pointer (some ⟨p,0,none⟩)] W (XF (Qe (F (val a) (val b) (val c) (val d)).1) (Qe (F (val a) (val b) (val c) (val d)).2) W)
theorem Zg3{a b:List UInt8}{L:Nat}(ha:a.length<=L)(hb:b.length<=L):(Qe (val a*val b)).length<=L+L+1:=QP (Xw (Yk ha) (Yk hb))
theorem Zoc:FOp 224 (fun a b c d=>(a*d-c*b,b*d)):=⟨enters_of Tryz.func224 (by kernel_rfl) rfl,fun a b c d p w hp0 hc hp ha hb hcl hd=>by
 have HP:=jq hp;have HC:=jq hc;have HM0:=jq (fun W (hb:Below w.1.size w W)=>ZdW a d W (HP.out.here hb) (by omega) (by omega));have HM1:=jq (fun W (hb:Below w.1.size w W)=>ZdW c b W (HP.out.here hb) (by omega) (by omega));have HM2:=jq (fun W (hb:Below w.1.size w W)=>ZdW b d W (HP.out.here hb) (by omega) (by omega));have HA:=jq (fun W (hb:Below w.1.size w W)=>Zlw (Qe (val a*val d)) (Qe (val c*val b)) W (HP.out.here hb) (by have:=Zg3 (a:=a) (b:=d) (L:=20000) (by omega) (by omega);omega) (by have:=Zg3 (a:=c) (b:=b) (L:=20000) (by omega) (by omega);omega));rw[Qm,Qm] at HA;have HPO:=jq (show XF (Qe (val a*val d-val c*val b)) (Qe (val b*val d)) w=fun e w'=>e=.returned (.tuple #[S (Qe (val a*val d-val c*val b)),S (Qe (val b*val d))])/\Below w.1.size w w' from rfl)
 show Calls _ _ _ _ (XF (Qe (val a*val d-val c*val b)) (Qe (val b*val d)) w)
 generalize XF (Qe (val a*val d-val c*val b)) (Qe (val b*val d)) w=post at*;clear hp hc ha hb hcl hd;have c0:=HC.out;have em:∀args w,(callFunc 222 args).run Tryz.prog w=.ok (.enter 222 args) w:=enters_of Tryz.func222 (by kernel_rfl) rfl;unfold S at*
 go_enter Tryz.func224,Tryz.ntmps224
 go_wp2_with fail
 go_region_held3 (fun w'=>w'.cell? ⟨p,0,none⟩=some (.func (.func 222) #[] #[]))
  (first
    |go_keep
    |exact(hz0.cell (p:=⟨p,0,none⟩) hp0).trans HC.out
    |exact(hz1.cell (p:=⟨p,0,none⟩) hp0).trans HC.out
    |exact(hz2.cell (p:=⟨p,0,none⟩) hp0).trans HC.out
    |exact(hz3.cell (p:=⟨p,0,none⟩) hp0).trans HC.out)
  (first
    |(go_at_call_of 222 (Value.string ⟨a.toArray⟩);refine(HM0.out _ ((Below.refl _ w).drew)).mono ?_;rintro e w0 ⟨rfl,hb0⟩;have hz0:Below w.1.size w w0:=((Below.refl _ w).drew).trans (hb0.mono (by first|exact Nat.le_refl _|exact((Below.refl _ w).drew).size)))
    |(go_at_call_of 222 (Value.string ⟨c.toArray⟩);refine(HM1.out _ (hz0)).mono ?_;rintro e w1 ⟨rfl,hb1⟩;have hz1:Below w.1.size w w1:=(hz0).trans (hb1.mono (by first|exact Nat.le_refl _|exact(hz0).size)))
    |(go_at_call 225;refine(HA.out _ (hz1)).mono ?_;rintro e w2 ⟨rfl,hb2⟩;have hz2:Below w.1.size w w2:=(hz1).trans (hb2.mono (by exact(hz1).size)))
    |(go_at_call_of 222 (Value.string ⟨b.toArray⟩);refine(HM2.out _ (hz2)).mono ?_;rintro e w3 ⟨rfl,hb3⟩;have hz3:Below w.1.size w w3:=(hz2).trans (hb3.mono (by first|exact Nat.le_refl _|exact(hz2).size))))
 all_goals
  go_wp2_with fail
  rw[HPO.out];exact⟨rfl,hz3⟩⟩
end
section
theorem ZhK(g:Nat)(F:Int->Int->Int->Int->Int×Int)(hop:FOp g F)(p:Nat)(f h:Fr)(w:World)(hp0:p<w.1.size)(hc:w.cell? ⟨p,0,none⟩=some (.func (.func 222) #[] #[]))(hp:Pow w)(hf:f.Sz 20000)(hh:h.Sz 20000)
 (h0:(F (val f.n) f.dv (val h.n) h.dv).2≠0) (hl1:(Qe (F (val f.n) f.dv (val h.n) h.dv).1).length<=50000) (hl2:(Qe (F (val f.n) f.dv (val h.n) h.dv).2).length<=50000):
 Calls Tryz.prog 194 #[.func (.func g) #[] #[.pointer (some ⟨p,0,none⟩)],Xg f,Xg h] w (QS (QJ (Rat.divInt (F (val f.n) f.dv (val h.n) h.dv).1 (F (val f.n) f.dv (val h.n) h.dv).2)) w):=by
 have HOP:=jq (fun W hlt hc hp=>hop.calls f.n f.dt h.n h.dt p W hlt hc hp hf.1 (Fr.dt_len hf.2 (by omega)) hh.1 (Fr.dt_len hh.2 (by omega)));simp only[Fr.val_dt] at HOP;have eg:=hop.enters;have HPO:=jq (show QS (QJ (Rat.divInt (F (val f.n) f.dv (val h.n) h.dv).1 (F (val f.n) f.dv (val h.n) h.dv).2)) w=fun e w'=>e=.returned (Xg (QJ (Rat.divInt (F (val f.n) f.dv (val h.n) h.dv).1 (F (val f.n) f.dv (val h.n) h.dv).2)))/\Below w.1.size w w' from rfl);generalize QS (QJ (Rat.divInt (F (val f.n) f.dv (val h.n) h.dv).1 (F (val f.n) f.dv (val h.n) h.dv).2)) w=post at*;generalize (F (val f.n) f.dv (val h.n) h.dv).1=x at*;generalize (F (val f.n) f.dv (val h.n) h.dv).2=y at*;have hB1:FrB (((w.alloc (.cells #[.string ⟨f.n.toArray⟩,.string ⟨f.d.toArray⟩] 39)).alloc (.cells #[.string ⟨h.n.toArray⟩,.string ⟨h.d.toArray⟩] 39)).alloc (.cells #[.string ⟨#[]⟩,.string ⟨#[]⟩] 39)) w.1.size f:=((FrB.new w f).alloc _).alloc _
 have hB2:FrB (((w.alloc (.cells #[.string ⟨f.n.toArray⟩,.string ⟨f.d.toArray⟩] 39)).alloc (.cells #[.string ⟨h.n.toArray⟩,.string ⟨h.d.toArray⟩] 39)).alloc (.cells #[.string ⟨#[]⟩,.string ⟨#[]⟩] 39)) (w.1.size+1) h:=by
  have:=(FrB.new (w.alloc (.cells #[.string ⟨f.n.toArray⟩,.string ⟨f.d.toArray⟩] 39)) h).alloc (.cells #[.string ⟨#[]⟩,.string ⟨#[]⟩] 39)
  simpa using this
 have hB3:FrB (((w.alloc (.cells #[.string ⟨f.n.toArray⟩,.string ⟨f.d.toArray⟩] 39)).alloc (.cells #[.string ⟨h.n.toArray⟩,.string ⟨h.d.toArray⟩] 39)).alloc (.cells #[.string ⟨#[]⟩,.string ⟨#[]⟩] 39)) (w.1.size+1+1) Fr.zero:=by
  have:=FrB.new ((w.alloc (.cells #[.string ⟨f.n.toArray⟩,.string ⟨f.d.toArray⟩] 39)).alloc (.cells #[.string ⟨h.n.toArray⟩,.string ⟨h.d.toArray⟩] 39)) Fr.zero
  simp only[World.size_alloc] at this;exact this
 have hbA:Below w.1.size w (((w.alloc (.cells #[.string ⟨f.n.toArray⟩,.string ⟨f.d.toArray⟩] 39)).alloc (.cells #[.string ⟨h.n.toArray⟩,.string ⟨h.d.toArray⟩] 39)).alloc (.cells #[.string ⟨#[]⟩,.string ⟨#[]⟩] 39)):=(((Below.refl _ _).alloc (Nat.le_refl _) _).alloc (by simp) _).alloc (by simp;omega) _;have HB1:=jq hB1;have HB2:=jq hB2;have HB3:=jq hB3;have HBA:=jq hbA;have HP1:=jq (fun W=>Jw f W (by have:=hf.2;omega));have HP2:=jq (fun W=>Jw h W (by have:=hh.2;omega));have HMD:=jq (fun W hp=>Zb1 (Qe x) (Qe y) W hp hl1 hl2 (by rw[Qm];exact h0));rw[Qm,Qm] at HMD;have HC:=jq hc;have HP:=jq hp;obtain⟨x0,x1⟩:=hB1.cells
 clear hB1 hB2 hB3 hbA hc hp hf hh hl1 hl2 h0 hop;unfold Xg at*
 unfold S at*
 go_enter Tryz.func194,Tryz.ntmps194
 go_wp2_with fail
 generalize (((w.alloc (.cells #[.string ⟨f.n.toArray⟩,.string ⟨f.d.toArray⟩] 39)).alloc (.cells #[.string ⟨h.n.toArray⟩,.string ⟨h.d.toArray⟩] 39)).alloc (.cells #[.string ⟨#[]⟩,.string ⟨#[]⟩] 39))=W at*;refine(HP1.out W).mono ?_;rintro e w1 ⟨rfl,hb1⟩;unfold S;have hb01:=HBA.out.trans (hb1.mono HBA.out.size);clear x0 x1;obtain⟨y0,y1⟩:=(HB2.out.here hb1).cells
 go_wp2_with fail
 refine(HP2.out w1).mono ?_;rintro e w2 ⟨rfl,hb2⟩;unfold S;have hb02:=hb01.trans (hb2.mono hb01.size);have hbW2:=hb1.trans (hb2.mono hb1.size);have HO2:=jq (HOP.out w2 (Nat.lt_of_lt_of_le hp0 hb02.size) ((hb02.cell (p:=⟨p,0,none⟩) hp0).trans HC.out) (HP.out.here hb02));clear y0 y1;go_wp2_with fail
 refine HO2.out.mono ?_;rintro e w3 ⟨rfl,hb3⟩;unfold S;have hb03:=hb02.trans (hb3.mono hb02.size);have hbW3:=hbW2.trans (hb3.mono hbW2.size);have HM3:=jq (HMD.out w3 (HP.out.here hb03));go_wp2_with fail
 refine HM3.out.mono ?_;rintro e w4 ⟨rfl,hb4⟩;have hbW4:=hbW3.trans (hb4.mono hbW3.size);have hb04:=hb03.trans (hb4.mono hb03.size);have HB4:=jq (HB3.out.here hbW4);obtain⟨z0,z1⟩:=HB4.out.cells
 have f0:=HB4.out.frozen 0;have f1:=HB4.out.frozen 1;generalize QJ (Rat.divInt x y)=res at*;unfold Xg S;go_wp2_with fail
 refine bodyPost_ret (v:=.agg #[.string ⟨res.n.toArray⟩,.string ⟨res.d.toArray⟩]) (by simp[results,Tryz.results194,go_sem,z0,z1]) rfl ?_;rw[HPO.out];exact⟨rfl,(hb04.setCell (p:=⟨w.1.size+1+1,0,none⟩) (by simp only;omega) _).setCell (p:=⟨w.1.size+1+1,1,none⟩) (by simp only;omega) _⟩
def ZdY(w:World)(e:Ending)(w':World):Prop:=
 ∃p,e=.returned (.agg #[.func (.func 223) #[] #[.pointer (some ⟨p,0,none⟩)],.func (.func 224) #[] #[.pointer (some ⟨p,0,none⟩)],.func (.func 226) #[] #[.pointer (some ⟨p,0,none⟩)],.func (.func 227) #[] #[.pointer (some ⟨p,0,none⟩)]])/\
  p<w'.1.size/\w'.cell? ⟨p,0,none⟩=some (.func (.func 222) #[] #[])/\Below w.1.size w w'
theorem Zly(w:World):Calls Tryz.prog 195 #[] w (ZdY w):=by
 have HPO:=jq (show ZdY w=fun e w'=>∃p,e=.returned (.agg #[.func (.func 223) #[] #[.pointer (some ⟨p,0,none⟩)],.func (.func 224) #[] #[.pointer (some ⟨p,0,none⟩)],.func (.func 226) #[] #[.pointer (some ⟨p,0,none⟩)],.func (.func 227) #[] #[.pointer (some ⟨p,0,none⟩)]])/\
  p<w'.1.size/\w'.cell? ⟨p,0,none⟩=some (.func (.func 222) #[] #[])/\Below w.1.size w w' from rfl)
 generalize ZdY w=post at*;go_enter Tryz.func195,Tryz.ntmps195
 go_wp2_with fail
 refine bodyPost_ret (v:=.agg #[.func (.func 223) #[] #[.pointer (some ⟨w.1.size+1,0,none⟩)],.func (.func 224) #[] #[.pointer (some ⟨w.1.size+1,0,none⟩)],.func (.func 226) #[] #[.pointer (some ⟨w.1.size+1,0,none⟩)],.func (.func 227) #[] #[.pointer (some ⟨w.1.size+1,0,none⟩)]]) (by simp[results,Tryz.results195,go_sem]) rfl ?_;rw[HPO.out];refine⟨w.1.size+1,rfl,by simp,?_,((Below.refl _ _).alloc (Nat.le_refl _) _).alloc (by simp) _⟩;have:=World.cell?_alloc_new (w.alloc (.cells #[.func (.func 223) #[] #[.pointer (some ⟨w.1.size+1,0,none⟩)],.func (.func 224) #[] #[.pointer (some ⟨w.1.size+1,0,none⟩)],.func (.func 226) #[] #[.pointer (some ⟨w.1.size+1,0,none⟩)],.func (.func 227) #[] #[.pointer (some ⟨w.1.size+1,0,none⟩)]] 218))
 simp only[World.size_alloc] at this;simp[this]
end
section
structure Fr3 (w:World) (p:Nat) (f h:Fr) (W:World):Prop where
 a:FrB W p f
 b:FrB W (p+1) h
 c:FrB W (p+1+1) Fr.zero
 bl:Below w.1.size w W
 hp:w.1.size<=p
theorem Fr3.here{w:World}{p:Nat}{f h:Fr}{W W':World}(H:Fr3 w p f h W)(hb:Below W.1.size W W'):Fr3 w p f h W':=⟨H.a.here hb,H.b.here hb,H.c.here hb,H.bl.trans (hb.mono H.bl.size),H.hp⟩
theorem Fr3.held{w:World}{p:Nat}{f h:Fr}{W:World}(H:Fr3 w p f h W):W.cell? ⟨p,0,none⟩=some (.string ⟨f.n.toArray⟩)/\W.cell? ⟨p,1,none⟩=some (.string ⟨f.d.toArray⟩)/\W.cell? ⟨p+1,0,none⟩=some (.string ⟨h.n.toArray⟩)/\W.cell? ⟨p+1,1,none⟩=some (.string ⟨h.d.toArray⟩):=
 ⟨H.a.cells.1,H.a.cells.2,H.b.cells.1,H.b.cells.2⟩
theorem Fr3.heldS{w:World}{p:Nat}{f h:Fr}{W:World}(H:Fr3 w p f h W)(u v:Value):((W.setCell ⟨p+1+1,0,none⟩ u).setCell ⟨p+1+1,1,none⟩ v).cell? ⟨p,0,none⟩=some (.string ⟨f.n.toArray⟩)/\((W.setCell ⟨p+1+1,0,none⟩ u).setCell ⟨p+1+1,1,none⟩ v).cell? ⟨p,1,none⟩=some (.string ⟨f.d.toArray⟩)/\((W.setCell ⟨p+1+1,0,none⟩ u).setCell ⟨p+1+1,1,none⟩ v).cell? ⟨p+1,0,none⟩=some (.string ⟨h.n.toArray⟩)/\((W.setCell ⟨p+1+1,0,none⟩ u).setCell ⟨p+1+1,1,none⟩ v).cell? ⟨p+1,1,none⟩=some (.string ⟨h.d.toArray⟩):=
 have h1:=((H.a.far (a:=⟨p+1+1,0,none⟩) (by simp only;omega) u).far (a:=⟨p+1+1,1,none⟩) (by simp only;omega) v).cells;have h2:=((H.b.far (a:=⟨p+1+1,0,none⟩) (by simp only;omega) u).far (a:=⟨p+1+1,1,none⟩) (by simp only;omega) v).cells
 ⟨h1.1,h1.2,h2.1,h2.2⟩
theorem Fr3.new(w:World)(f h:Fr):Fr3 w w.1.size f h (((w.alloc (.cells #[.string ⟨f.n.toArray⟩,.string ⟨f.d.toArray⟩] 39)).alloc (.cells #[.string ⟨h.n.toArray⟩,.string ⟨h.d.toArray⟩] 39)).alloc (.cells #[.string ⟨#[]⟩,.string ⟨#[]⟩] 39)):=by
 refine⟨((FrB.new w f).alloc _).alloc _,?_,?_,(((Below.refl _ _).alloc (Nat.le_refl _) _).alloc (by simp) _).alloc (by simp;omega) _,Nat.le_refl _⟩
 ·have:=(FrB.new (w.alloc (.cells #[.string ⟨f.n.toArray⟩,.string ⟨f.d.toArray⟩] 39)) h).alloc (.cells #[.string ⟨#[]⟩,.string ⟨#[]⟩] 39)
  simp only[World.size_alloc] at this;exact this
 ·have:=FrB.new ((w.alloc (.cells #[.string ⟨f.n.toArray⟩,.string ⟨f.d.toArray⟩] 39)).alloc (.cells #[.string ⟨h.n.toArray⟩,.string ⟨h.d.toArray⟩] 39)) Fr.zero
  simp only[World.size_alloc] at this;exact this
theorem Zjd(p:Nat)(W:World):(Instr.index 218 (.agg #[.func (.func 223) #[] #[.pointer (some ⟨p,0,none⟩)],.func (.func 224) #[] #[.pointer (some ⟨p,0,none⟩)],.func (.func 226) #[] #[.pointer (some ⟨p,0,none⟩)],.func (.func 227) #[] #[.pointer (some ⟨p,0,none⟩)]]) (.int .i64 1)).run Tryz.prog W=.ok (.func (.func 224) #[] #[.pointer (some ⟨p,0,none⟩)]) W:=by kernel_rfl
theorem Zje{n:Int}{L M:Nat}(h:n.natAbs<10^L)(hL:L+1<=M):(Qe n).length<=M:=Nat.le_trans (QP h) hL
theorem Zjf(f h:Fr)(w:World)(hp:Pow w)(hf:f.Sz 20000)(hh:h.Sz 20000):Calls Tryz.prog 164 #[Xg f,Xg h] w (QS (QJ (f.rat-h.rat)) w):=by
 have HAP:=jq (fun p W hlt hc hpw=>by
  obtain⟨K,hKe⟩:∃K:Nat,K=20000:=⟨_,rfl⟩
  rw[<-hKe] at hf hh;have hK:1<=K:=by omega
  exact ZhK 224 _ Zoc p f h W hlt hc hpw (by rw[<-hKe];exact hf) (by rw[<-hKe];exact hh) (Int.mul_ne_zero f.dv_ne h.dv_ne) (Zje (ZbT (Xw (Yk hf.1) (Fr.dv_lt hh.2 hK)) (Xw (Yk hh.1) (Fr.dv_lt hf.2 hK))) (by omega)) (Zje (Xw (Fr.dv_lt hf.2 hK) (Fr.dv_lt hh.2 hK)) (by omega)))
 simp only[<-ZgO] at HAP;have HPO:=jq (show QS (QJ (f.rat-h.rat)) w=fun e w'=>e=.returned (Xg (QJ (f.rat-h.rat)))/\Below w.1.size w w' from rfl);generalize QS (QJ (f.rat-h.rat)) w=post at*;generalize QJ (f.rat-h.rat)=res at*;have H3:=jq (Fr3.new w f h);have HP:=jq hp;obtain⟨x0,x1,y0,y1⟩:=H3.out.held
 clear hp hf hh;unfold Xg at*
 unfold S at*
 go_enter Tryz.func164,Tryz.ntmps164
 go_upto_region 1 with (fail)
 generalize (((w.alloc (.cells #[.string ⟨f.n.toArray⟩,.string ⟨f.d.toArray⟩] 39)).alloc (.cells #[.string ⟨h.n.toArray⟩,.string ⟨h.d.toArray⟩] 39)).alloc (.cells #[.string ⟨#[]⟩,.string ⟨#[]⟩] 39))=W at*
 go_region_held3 (fun w'=>w'.cell? ⟨w.1.size,0,none⟩=some (.string ⟨f.n.toArray⟩)/\w'.cell? ⟨w.1.size,1,none⟩=some (.string ⟨f.d.toArray⟩)/\w'.cell? ⟨w.1.size+1,0,none⟩=some (.string ⟨h.n.toArray⟩)/\w'.cell? ⟨w.1.size+1,1,none⟩=some (.string ⟨h.d.toArray⟩))
  (first
    |exact(H3.out.here hz2).heldS _ _
    |exact(H3.out.here hz2).held
    |exact(H3.out.here hz).held
    |go_keep)
  (first
    |(go_at_call 195;refine(Zly _).mono ?_;rintro e w1 ⟨p,rfl,hlt,hc,hb1⟩;have hz:Below W.1.size W w1:=(Below.refl _ W).drew.trans hb1;have hix:=Zjd p w1)
    |(go_at_call 194;refine(HAP.out p _ hlt hc (HP.out.here (H3.out.here hz).bl)).mono ?_;rintro e w2 ⟨rfl,hb2⟩;unfold Xg S;have hz2:=hz.trans (hb2.mono hz.size);have z0:=(H3.out.here hz2).c.cells.1;have z1:=(H3.out.here hz2).c.cells.2;have f0:=(H3.out.here hz2).c.frozen 0;have f1:=(H3.out.here hz2).c.frozen 1))
 all_goals
  go_wp2_with fail
  refine bodyPost_ret (v:=.agg #[.string ⟨res.n.toArray⟩,.string ⟨res.d.toArray⟩]) (by simp[results,Tryz.results164,go_sem,z0,z1]) rfl ?_;rw[HPO.out];exact⟨rfl,((H3.out.here hz2).bl.setCell (p:=⟨w.1.size+1+1,0,none⟩) (by simp only;omega) _).setCell (p:=⟨w.1.size+1+1,1,none⟩) (by simp only;omega) _⟩
end
section
def ZbF(r:Fr×Int)(w:World)(e:Ending)(w':World):Prop:=e=.returned (.tuple #[Xg r.1,.int .i64 r.2])/\Below w.1.size w w'
theorem Zjg(n:Int):(QM n==0)=decide (n=0):=by
 unfold QM;rw[Bool.eq_iff_iff];simp
 (repeat' split)<;>omega
theorem Zm1{f h:Fr}{L:Nat}(hf:f.Sz L)(hh:h.Sz L)(hL:1<=L):(QJ (f.rat-h.rat)).Sz (L+L+1+1):=Zlm (ZmQ hf hh hL)
theorem Zau(f h:Fr)(w:World)(hp:Pow w)(hf:f.Sz 20000)(hh:h.Sz 20000):Calls Tryz.prog 137 #[Xg f,Xg h] w (QR (Xj f.rat h.rat) w):=by
 have HSU:=jq (fun W hp=>Zjf f h W hp hf hh)
 have hsz:(QJ (f.rat-h.rat)).Sz 40002:=by
  obtain⟨K,hKe⟩:∃K:Nat,K=20000:=⟨_,rfl⟩
  rw[<-hKe] at hf hh;have:=Zm1 hf hh (by omega)
  rw[hKe] at this;exact this
 have HCR:=jq (show Xj f.rat h.rat=QM (val (QJ (f.rat-h.rat)).n-val []) by
  rw[ZiZ,VA,Int.sub_zero];unfold QJ;simp only[Qm])
 have HPO:=jq (show QR (Xj f.rat h.rat) w=fun e w'=>e=.returned (.int .i64 (Xj f.rat h.rat))/\Below w.1.size w w' from rfl);generalize QR (Xj f.rat h.rat) w=post at*;rw[HCR.out] at HPO;generalize QJ (f.rat-h.rat)=r at*;have HPA:=jq (fun W=>Jw r W (by have:=hsz.2;omega));have HCM:=jq (fun W=>Vb r.n [] W (by have:=hsz.1;omega) (by simp));have HP:=jq hp;have hB1:FrB ((w.alloc (.cells #[.string ⟨f.n.toArray⟩,.string ⟨f.d.toArray⟩] 39)).alloc (.cells #[.string ⟨h.n.toArray⟩,.string ⟨h.d.toArray⟩] 39)) w.1.size f:=(FrB.new w f).alloc _
 have hB2:FrB ((w.alloc (.cells #[.string ⟨f.n.toArray⟩,.string ⟨f.d.toArray⟩] 39)).alloc (.cells #[.string ⟨h.n.toArray⟩,.string ⟨h.d.toArray⟩] 39)) (w.1.size+1) h:=by
  have:=FrB.new (w.alloc (.cells #[.string ⟨f.n.toArray⟩,.string ⟨f.d.toArray⟩] 39)) h
  simp only[World.size_alloc] at this;exact this
 have hbA:Below w.1.size w ((w.alloc (.cells #[.string ⟨f.n.toArray⟩,.string ⟨f.d.toArray⟩] 39)).alloc (.cells #[.string ⟨h.n.toArray⟩,.string ⟨h.d.toArray⟩] 39)):=((Below.refl _ _).alloc (Nat.le_refl _) _).alloc (by simp) _;obtain⟨x0,x1⟩:=hB1.cells
 obtain⟨y0,y1⟩:=hB2.cells
 have HBA:=jq hbA;clear hp hf hh hsz HCR hB1 hB2 hbA;unfold Xg at*
 unfold S at*
 go_enter Tryz.func137,Tryz.ntmps137
 go_wp2_with fail
 generalize (w.alloc (.cells #[.string ⟨f.n.toArray⟩,.string ⟨f.d.toArray⟩] 39)).alloc (.cells #[.string ⟨h.n.toArray⟩,.string ⟨h.d.toArray⟩] 39)=W at*;refine(HSU.out W (HP.out.here HBA.out)).mono ?_;rintro e w1 ⟨rfl,hb1⟩;unfold Xg S;have hb01:=HBA.out.trans (hb1.mono HBA.out.size);go_wp2_with fail
 refine(HPA.out w1).mono ?_;rintro e w2 ⟨rfl,hb2⟩;unfold S;have hb02:=hb01.trans (hb2.mono hb01.size);go_wp2_with fail
 refine(HCM.out w2).mono ?_;rintro e w3 ⟨rfl,hb3⟩;have hb03:=hb02.trans (hb3.mono hb02.size);go_wp2_with fail
 rw[HPO.out];exact⟨rfl,hb03⟩
theorem Zlz(a:List UInt8)(w:World)(hp:Pow w)(ha:a.length<=50000):Calls Tryz.prog 140 #[S a] w (QS (QJ (val a)) w):=by
 have hbA:Below w.1.size w (w.alloc (.cells #[.string ⟨#[]⟩,.string ⟨#[]⟩] 39)):=(Below.refl _ _).alloc (Nat.le_refl _) _;have HMD:=jq (Zb1 a [49] (w.alloc (.cells #[.string ⟨#[]⟩,.string ⟨#[]⟩] 39)) (hp.here hbA) ha (by simp) (by rw[VE];omega));rw[VE,ZbU] at HMD;have HPO:=jq (show QS (QJ (val a)) w=fun e w'=>e=.returned (Xg (QJ (val a)))/\Below w.1.size w w' from rfl);generalize QS (QJ (val a)) w=post at*;generalize QJ (val a)=res at*;have HB:=jq (show FrB (w.alloc (.cells #[.string ⟨#[]⟩,.string ⟨#[]⟩] 39)) w.1.size Fr.zero from FrB.new w Fr.zero);have HBA:=jq hbA;clear hp ha hbA;unfold Xg at*
 unfold S at*
 go_enter Tryz.func140,Tryz.ntmps140
 go_wp2_with fail
 generalize w.alloc _=W at*;refine HMD.out.mono ?_;rintro e w1 ⟨rfl,hb1⟩;unfold Xg S;have HB1:=jq (HB.out.here hb1);obtain⟨c0,c1⟩:=HB1.out.cells
 have f0:=HB1.out.frozen 0;have f1:=HB1.out.frozen 1;have hb01:=HBA.out.trans (hb1.mono HBA.out.size);go_wp2_with fail
 refine bodyPost_ret (v:=.agg #[.string ⟨res.n.toArray⟩,.string ⟨res.d.toArray⟩]) (by simp[results,Tryz.results140,go_sem,c0,c1]) rfl ?_;rw[HPO.out];exact⟨rfl,(hb01.setCell (p:=⟨w.1.size,0,none⟩) (Nat.le_refl _) _).setCell (p:=⟨w.1.size,1,none⟩) (Nat.le_refl _) _⟩
def JK(f:Fr):Int:=if f.ok then 0 else 1
theorem ZfS(f:Fr)(w:World)(hp:Pow w)(hf:f.Sz 20000):Calls Tryz.prog 138 #[Xg f] w (QR (JK f) w):=by
 have hbA:Below w.1.size w (w.alloc (.cells #[.string ⟨f.n.toArray⟩,.string ⟨f.d.toArray⟩] 39)):=(Below.refl _ _).alloc (Nat.le_refl _) _;have HPA:=jq (fun W=>Jw f W (by have:=hf.2;omega));have HMD:=jq (fun W hp=>Zb1 f.n f.dt W hp (by have:=hf.1;omega) (by have:=Fr.dt_len hf.2 (by omega);omega) (by rw[Fr.val_dt];exact f.dv_ne));rw[Fr.val_dt,show Rat.divInt (val f.n) f.dv=f.rat from rfl] at HMD;have HPO:=jq (show QR (JK f) w=fun e w'=>e=.returned (.int .i64 (JK f))/\Below w.1.size w w' from rfl);have HCK:=jq (show JK f=if f=QJ f.rat then 0 else 1 from rfl);generalize QR (JK f) w=post at*;generalize QJ f.rat=g at*;have HB:=jq (FrB.new w f);have HBA:=jq hbA;have HP:=jq hp;obtain⟨x0,x1⟩:=HB.out.cells
 clear hp hf hbA
 have HEQ:=jq (show JK f=if(f.n==g.n)&&(f.d==g.d) then 0 else 1 by
  rw[HCK.out]
  by_cases h:f=g
  ·subst h;simp
  ·rw[if_neg h,if_neg];intro h2;simp at h2;exact h (Fr.ext_ h2.1 h2.2))
 clear HCK;unfold Xg at*
 unfold S at*
 cases hn:(f.n==g.n)<;>cases hd:(f.d==g.d)
 all_goals
  rw[hn,hd] at HEQ;simp only[Bool.and_true,Bool.and_false,Bool.false_eq_true,if_true,if_false] at HEQ;go_enter Tryz.func138,Tryz.ntmps138
  go_upto_region 1 with (fail)
  generalize w.alloc _=W at*
  go_region_held3 (fun w'=>w'.cell? ⟨w.1.size,0,none⟩=some (.string ⟨f.n.toArray⟩)/\w'.cell? ⟨w.1.size,1,none⟩=some (.string ⟨f.d.toArray⟩))
   (first
     |exact(HB.out.here hz2).cells
     |exact(HB.out.here hz).cells
     |go_keep)
   (first
     |(go_at_call 163;refine(HPA.out _).mono ?_;rintro e w1 ⟨rfl,hb1⟩;unfold S;have hz:Below W.1.size W w1:=(Below.refl _ W).drew.trans hb1)
     |(go_at_call 165;refine(HMD.out _ (HP.out.here (HBA.out.trans (hz.mono HBA.out.size)))).mono ?_;rintro e w2 ⟨rfl,hb2⟩;unfold Xg S;have hz2:=hz.trans (hb2.mono hz.size)))
  all_goals
   go_wp2_with fail
   rw[HPO.out,HEQ.out];exact⟨rfl,HBA.out.trans (hz2.mono HBA.out.size)⟩
end
section
def F2(f:Fr):List Value:=[S f.n,S f.d]
theorem Zjh(f:Fr):(F2 f).length=2:=rfl
abbrev Frs(w:World)(B:Nat)(A:Option Addr)(n:Nat)(xs:List Fr):Prop:=Sl F2 2 w B A n xs
theorem Sl.fr{w:World}{B:Nat}{A:Option Addr}{n:Nat}{xs:List Fr}{i:Nat}(h:Frs w B A n xs)(hi:i<n):
 ∃b off x,A=some ⟨b,off,none⟩/\b<B/\xs[i]?=some x/\w.cell? ⟨b,off+i*2,none⟩=some (.string ⟨x.n.toArray⟩)/\w.cell? ⟨b,off+i*2+1,none⟩=some (.string ⟨x.d.toArray⟩):=by
 obtain⟨b,off,x,hA,hb,hx,hc⟩:=h.at_ hi
 exact⟨b,off,x,hA,hb,hx,hc 0 _ rfl,hc 1 _ rfl⟩
end
end Go.Proofs.YtmfjmngebldanaaGreatDoor
