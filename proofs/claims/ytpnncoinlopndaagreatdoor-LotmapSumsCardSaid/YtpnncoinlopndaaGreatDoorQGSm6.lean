/- Gd, Fp1, Fp2, Fp3, Fp4, Fp5, Dv, Fp6, D0, N1b, D1. -/
import Derived.Test.YtpnncoinlopndaaGreatDoorQGSm5
import Derived.Laws.EntriesVeiled
set_option maxRecDepth 100000
set_option maxHeartbeats 2000000
namespace Go.Proofs.YtpnncoinlopndaaGreatDoor
open Go.Lib renaming hid→hdz
section
open Go.RowKit Go.Shelf
attribute [local go_sem] Oper.semAt_some
theorem Zi7(A A':Option Addr)(n c n' c':Nat)(w:World):Calls Tryz.prog 213 #[.slice A n c,.slice A' n' c'] w fun e w'=>e=.returned (.func (.func 247) #[] #[.pointer (some ⟨w.heap.size,0,none⟩),.pointer (some ⟨w.heap.size+1,0,none⟩)])∧(w.alloc (.cells #[.slice A n c] 142)).alloc (.cells #[.slice A' n' c'] 142)=w':=by
 go_enter Tryz.func213,Tryz.ntmps213
 go_wp2
 go_ret
 exact⟨rfl,rfl⟩
theorem Zi8(W:World)(b:Bool)(A:Option Addr)(n c:Nat):(Instr.field 144 (.agg #[.bool b,.slice A n c]) 1).run Tryz.prog W=.ok (.slice A n c) W:=by
 kernel_rfl
theorem Zi9(a b:List UInt8):Nat.gcd (valD (digL a).1) (valD (digL b).1)=Int.gcd (val a) (val b):=by
 unfold Int.gcd val
 split<;>split<;>simp
theorem Zmo(a b:List UInt8)(w:World)(hp:Pow w)(ha:a.length≤100000)(hb:b.length≤100000):Calls Tryz.prog 187 #[S a,S b] w (StrPost (txtL (Int.gcd (val a) (val b):Nat)) w):=by
 have HRa:=hdz (fun W=>ZaI a W (by omega))
 have HRb:=hdz (fun W=>ZaI b W (by omega))
 obtain⟨K,hK⟩:∃K:Nat,K=100000:=⟨_,rfl⟩
 have hva:=Zal (show a.length≤K by omega)
 have hvb:=Zal (show b.length≤K by omega)
 have HK:=hdz hK;clear hK
 have HPO:=hdz (show StrPost (txtL (Int.gcd (val a) (val b):Nat)) w=fun e w'=>e=.returned (S (txtL (Int.gcd (val a) (val b):Nat)))∧Below w.heap.size w w' from rfl)
 have HGV:=hdz (Zi9 a b)
 unfold ReadPost at HRa HRb
 have HVA:=hdz hva;have HVB:=hdz hvb;have HP:=hdz hp
 generalize StrPost (txtL (Int.gcd (val a) (val b):Nat)) w=post at*
 generalize Int.gcd (val a) (val b)=G at*
 generalize (digL a).2=na at*
 generalize (digL b).2=nb at*
 generalize valD (digL a).1=u at*
 generalize valD (digL b).1=v at*
 clear ha hb hva hvb hp
 unfold S at*
 refine(callsIn_wide (n:=5)).1 ?_
 refine callsIn_of_wp_marks Tryz.func187 rfl trivial ?_ rfl
 simp only[Tryz.ntmps187,List.size_toArray,List.length_cons,List.length_nil,Nat.reduceAdd,Nat.reduceSub,Array.replicate_succ,Array.replicate_zero,List.push_toArray,List.append_toArray,List.nil_append,List.cons_append]
 gi_wp2_with fail
 refine⟨trivial,?_⟩
 have bO0:=Box.new w 142 (.slice none 0 0)
 have hb0:Below w.heap.size w (w.alloc (.cells #[.slice none 0 0] 142)):=(Below.refl _ _).alloc (Nat.le_refl _) _
 generalize w.alloc _=W0 at*
 refine(callsIn_wide.2 (HRa.out W0)).mono ?_
 rintro e w1 ⟨A1,n1,c1,xs,rfl,ho1,mg1,hb1⟩
 have HO1:=hdz ho1;have HM1:=hdz mg1;clear ho1 mg1 HRa
 have hf1:=Zi8 w1 na A1 n1 c1
 gi_wp2_with fail
 refine⟨trivial,?_⟩
 refine(callsIn_wide.2 (HRb.out w1)).mono ?_
 rintro e w2 ⟨A2,n2,c2,ys,rfl,ho2,mg2,hb2⟩
 have HO2:=hdz ho2;have HM2:=hdz mg2;clear ho2 mg2 HRb hf1
 have hf2:=Zi8 w2 nb A2 n2 c2
 have HX1:=hdz ((HO1.out.below hb2).sl Zaj)
 have HX2:=hdz (HO2.out.sl Zaj)
 have HL1:=hdz (show n1≤K by rw[HX1.out.1];exact HM1.out.len HVA.out)
 have HL2:=hdz (show n2≤K by rw[HX2.out.1];exact HM2.out.len HVB.out)
 have hcap1:n1≤c1:=by obtain⟨h1,h2,_⟩:=HO1.out.facts;omega
 have hcap2:n2≤c2:=by obtain⟨h1,h2,_⟩:=HO2.out.facts;omega
 have bO2:=(bO0.here hb1).here hb2
 have hb02:=hb0.trans ((hb1.trans (hb2.mono hb1.size)).mono hb0.size)
 have hlt:w.heap.size<w2.heap.size:=bO2.lt
 gi_wp2_with fail
 refine⟨trivial,?_⟩
 refine(callsIn_wide.2 (Zi7 A1 A2 n1 c1 n2 c2 w2)).mono ?_
 rintro e w3 ⟨rfl,rfl⟩
 have hbA:Below w2.heap.size w2 ((w2.alloc (.cells #[.slice A1 n1 c1] 142)).alloc (.cells #[.slice A2 n2 c2] 142)):=((Below.refl _ _).alloc (Nat.le_refl _) _).alloc (by simp) _
 have bm:Box ((w2.alloc (.cells #[.slice A1 n1 c1] 142)).alloc (.cells #[.slice A2 n2 c2] 142)) w2.heap.size 142 (.slice A1 n1 c1):=(Box.new w2 _ _).alloc _
 have bn:Box ((w2.alloc (.cells #[.slice A1 n1 c1] 142)).alloc (.cells #[.slice A2 n2 c2] 142)) (w2.heap.size+1) 142 (.slice A2 n2 c2):=by
  have:=Box.new (w2.alloc (.cells #[.slice A1 n1 c1] 142)) 142 (.slice A2 n2 c2)
  simpa using this
 have bO3:=bO2.here hbA
 have HE:=hdz (show EuSt G w2.heap.size (w2.heap.size+1) A1 A2 n1 c1 n2 c2 xs ys u v _ from⟨bm,bn,HX1.out.here hbA,HX2.out.here hbA,HM1.out,HM2.out,HGV.out,by have:=HL1.out;have:=HK.out;omega,by have:=HL2.out;have:=HK.out;omega,hcap1,hcap2⟩)
 have hb03:=hb02.trans (hbA.mono hb02.size)
 have hsz3:w2.heap.size+2=((w2.alloc (.cells #[.slice A1 n1 c1] 142)).alloc (.cells #[.slice A2 n2 c2] 142)).heap.size:=by simp
 clear bm bn hbA HX1 HX2 HO1 HO2 hb1 hb2 bO0 bO2 hb0 hb02
 gi_wp2_with fail
 generalize (w2.alloc (.cells #[.slice A1 n1 c1] 142)).alloc (.cells #[.slice A2 n2 c2] 142)=W3 at*
 have HSZ:=hdz hsz3;clear hsz3 hf2
 have h3:=HSZ.out
 refine ZcK (F:=Fence.wide) (n:=5) rfl (by omega) (gf:=247) (lb:=#[.pointer (some ⟨w2.heap.size,0,none⟩),.pointer (some ⟨w2.heap.size+1,0,none⟩)]) rfl trivial (enters_of Tryz.func247 (by kernel_rfl) rfl)
  w.heap.size (by omega) (Kp2 w2.heap.size (w2.heap.size+1)) (EuT G) (fun A B h b hb1 hb2=>h.2 b hb2 (by omega) (by omega)) (.slice none 0 0) ?hseq rfl
  (fun s W=>Box W w.heap.size 142 s∧(∃B m c,s=.slice B m c)∧Below w.heap.size w W)
  (fun s A B ⟨h1,h2,h3⟩ hk=>⟨hk.box h1 (by omega) (by omega),h2,hk.under h3 (by have:=h3.size;omega) (by omega) (by omega)⟩)
  (fun s A ⟨h1,h2,_⟩=>⟨_,s,h1,h2⟩)
  (fun s A B l hl ⟨h1,h2,h3⟩ hk=>⟨hk.box h1 (by omega) (by omega),h2,hk.under h3 (by have:=h3.size;omega) (by omega) (by omega)⟩)
  ⟨bO3,⟨_,_,_,rfl⟩,hb03⟩
  (fun x y=>{tmps:=#[.string ⟨a.toArray⟩,.string ⟨b.toArray⟩,undef,undef,.string ⟨#[]⟩,.pointer (some ⟨w.heap.size,0,none⟩),x,.string ⟨a.toArray⟩,.agg #[.bool na,.slice A1 n1 c1],.slice A1 n1 c1,.string ⟨b.toArray⟩,.agg #[.bool nb,.slice A2 n2 c2],.slice A2 n2 c2,.func (.func 247) #[] #[.pointer (some ⟨w2.heap.size,0,none⟩),.pointer (some ⟨w2.heap.size+1,0,none⟩)],x,y,undef,undef,undef,undef],defers:=[]})
  ?assign ?body ?done
 case hseq=>
  intro l J W hl hbW hJi hJl hJb hY h0
  have hE:=HE.out.here hbW
  exact Zi6 4 (by omega) G l w.heap.size w2.heap.size (w2.heap.size+1) J (by omega) (by omega) (by omega) (by omega) (by omega) hJi hJl hJb hY (.slice none 0 0) W h0 A1 A2 n1 c1 n2 c2 xs ys u v hE
 case assign=>
  intro l x y W K hK
  gi_wp2
  exact hK
 case body=>
  rintro l s B m c y W hl ⟨hbx,hs,hbl⟩
  have c0:=hbx.cell
  have f0:=hbx.frozen
  gi_wp2
  exact⟨(Kp2.refl w.heap.size w.heap.size W).set1 0 _,hbx.set_ _,hbl.setCell (p:=⟨w.heap.size,0,none⟩) (Nat.le_refl _) _⟩
 case done=>
  rintro D s W W0 hD ⟨hbx,hs,hbl⟩ ⟨A5,n5,c5,zs,rfl,hg5,mg5,hc5,hn5⟩ hk ⟨r,hr⟩ hK
  have c0:=hbx.cell
  have hg:=hg5.kp2 hk (fun o x=>Zea hr o x) (fun o x=>Zea hr o x)
  have HTX:=hdz (ZbS false A5 n5 c5 zs W hg mg5.gs hc5 (by omega) (HP.out.here hbl))
  rw[mg5.val,Zbj,show sv false G=(G:Int) from rfl] at HTX
  unfold S at HTX
  clear hg hg5 mg5 h3
  gi_wp2_with fail
  refine⟨trivial,?_⟩
  refine(callsIn_wide.2 HTX.out).mono ?_
  rintro e w6 ⟨rfl,hb6⟩
  have hK6:w6.heap[D]?=some (.deferred (some [])):=(hb6.block D (Array.getElem?_eq_some_iff.1 hK).1).trans hK
  have hb06:=hbl.trans (hb6.mono hbl.size)
  gi_wp2
  refine⟨by simp,.inl ⟨_,_,rfl,run_takeDeferred hK6,?_⟩⟩
  refine⟨_,results_tmp rfl _ _ _,?_⟩
  rw[HPO.out]
  refine⟨rfl,?_⟩
  exact hb06.grown (grownBy_putObj' w6 D (.deferred none)) (by have:=hb06.size;omega) (fun r e=>by cases e;have:=HSZ.out;omega)
end
section
open Go.RowKit Go.Shelf
def FrV(f:Fr):Value:=.agg #[S f.n,S f.d]
def FrB(w:World)(p:Nat)(f:Fr):Prop:=w.heap[p]?=some (.cells #[S f.n,S f.d] 26 (0,0))
section
variable {w w':World} {p:Nat} {f:Fr}
theorem FrB.lt(h:FrB w p f):p<w.heap.size:=(Array.getElem?_eq_some_iff.1 h).1
theorem FrB.cells(h:FrB w p f):w.cell? ⟨p,0,none⟩=some (.string ⟨f.n.toArray⟩)∧w.cell? ⟨p,1,none⟩=some (.string ⟨f.d.toArray⟩):=
 ⟨cell_of_row w p 0 _ 26 (0,0) h,cell_of_row w p 1 _ 26 (0,0) h⟩
theorem FrB.frozen(h:FrB w p f)(j:Nat):w.frozen? ⟨p,j,none⟩=false:=by
 unfold FrB at h
 simp[World.frozen?,h]
theorem FrB.below{N:Nat}(h:FrB w p f)(hb:Below N w w')(hg:p<N):FrB w' p f:=(hb.block p hg).trans h
theorem FrB.here(h:FrB w p f)(hb:Below w.heap.size w w'):FrB w' p f:=h.below hb h.lt
theorem FrB.new(w:World)(f:Fr):FrB (w.alloc (.cells #[.string ⟨f.n.toArray⟩,.string ⟨f.d.toArray⟩] 26)) w.heap.size f:=heap_alloc_new w _
theorem FrB.alloc(h:FrB w p f)(o:Obj):FrB (w.alloc o) p f:=(Below.heap_alloc w o p h.lt).trans h
theorem FrB.far(h:FrB w p f){a:Addr}(hp:p≠a.block)(u:Value):FrB (w.setCell a u) p f:=(Below.heap_setCell w a u p hp).trans h
end
def FracPost(f:Fr)(w:World)(e:Ending)(w':World):Prop:=e=.returned (FrV f)∧Below w.heap.size w w'
def TwoPost(x y:List UInt8)(w:World)(e:Ending)(w':World):Prop:=e=.returned (.tuple #[S x,S y])∧Below w.heap.size w w'
theorem ZbV{a b:Int}(hb:b≠0){w w':World}{e:Ending}(h:Div3Post a b w e w'):e=.returned (.tuple #[.string ⟨(txtL (a.fdiv b)).toArray⟩,.string ⟨(txtL (a.fmod b)).toArray⟩,.int .i64 0])∧Below w.heap.size w w':=by
 unfold Div3Post at h
 rw[if_neg hb] at h
 exact h
theorem Zja(n:Int){d:List UInt8}(hd:val d≠0):(txtL (Int.gcd n (val d):Nat)).length≤d.length+1:=by
 refine Zab ?_
 have h1:=ZdA d
 have h2:Int.gcd n (val d)≤(val d).natAbs:=Nat.le_of_dvd (by omega) (Nat.gcd_dvd_right _ _)
 simp
 omega
theorem Zeb(n d:List UInt8)(w:World)(hp:Pow w)(hn:n.length≤50000)(hd:d.length≤50000)(hd0:val d≠0):
 Calls Tryz.prog 144 #[S n,S d] w (TwoPost (txtL (Rat.divInt (val n) (val d)).num) (txtL (Rat.divInt (val n) (val d)).den) w):=by
 have HCM:=hdz (Zar d [] w (by omega) (by simp))
 rw[show val ([]:List UInt8)=0 from ZaD,Int.sub_zero] at HCM
 have HPO:=hdz (show TwoPost (txtL (Rat.divInt (val n) (val d)).num) (txtL (Rat.divInt (val n) (val d)).den) w=fun e w'=>e=.returned (.tuple #[S (txtL (Rat.divInt (val n) (val d)).num),S (txtL (Rat.divInt (val n) (val d)).den)])∧Below w.heap.size w w' from rfl)
 have HN:=hdz hn;have HD:=hdz hd;have HP:=hdz hp
 have HNEG:=hdz (Rat.neg_divInt_neg (val n) (val d))
 generalize TwoPost (txtL (Rat.divInt (val n) (val d)).num) (txtL (Rat.divInt (val n) (val d)).den) w=post at*
 generalize hq:Rat.divInt (val n) (val d)=q at*
 have HQ:=hdz hq
 clear hn hd hp hq
 unfold S at*
 go_enter Tryz.func144,Tryz.ntmps144
 go_wp2_with fail
 refine HCM.out.mono ?_
 rintro e w1 ⟨rfl,hb1⟩
 go_upto_if 9 with (fail)
 go_cut [0,1] (fun s t wc=>∃n1 d1:List UInt8,s=.string ⟨n1.toArray⟩∧t=.string ⟨d1.toArray⟩∧Hid (0<val d1)∧Hid (Rat.divInt (val n1) (val d1)=q)∧Hid (n1.length≤50001)∧Hid (d1.length≤50001)∧Below w.heap.size w wc)
 case first=>
  by_cases hneg:val d<0
  ·have hs:sgnI (val d)= -1:=by unfold sgnI;rw[if_pos hneg]
   have HNA:=hdz (Zi4 n w1 (HP.out.here hb1) (by have:=HN.out;omega))
   have HND:=hdz (fun W (hb:Below w1.heap.size w1 W)=>Zi4 d W ((HP.out.here hb1).here hb) (by have:=HD.out;omega))
   unfold S at HNA HND
   rw[hs]
   go_wp2_with fail
   refine HNA.out.mono ?_
   rintro e w2 ⟨rfl,hb2⟩
   go_wp2_with fail
   refine(HND.out w2 hb2).mono ?_
   rintro e w3 ⟨rfl,hb3⟩
   have hb13:=hb1.trans ((hb2.trans (hb3.mono hb2.size)).mono hb1.size)
   go_wp2_with fail
   go_meet
   refine⟨txtL (-val n),txtL (-val d),rfl,rfl,?_,?_,?_,?_,hb13⟩
   ·show _<_;rw[Zaa];omega
   ·show _=_;rw[Zaa,Zaa,HNEG.out]
   ·show _≤_;have:=HN.out;have:=Zab (n:= -val n) (L:=n.length) (by have:=ZdA n;omega);omega
   ·show _≤_;have:=HD.out;have:=Zab (n:= -val d) (L:=d.length) (by have:=ZdA d;omega);omega
  ·have hs:sgnI (val d)=1:=by unfold sgnI;rw[if_neg hneg,if_pos (by omega)]
   rw[hs]
   go_wp2_with fail
   go_meet
   exact⟨n,d,rfl,rfl,by show _<_;omega,HQ,by show _≤_;have:=HN.out;omega,by show _≤_;have:=HD.out;omega,hb1⟩
 case rest=>
 clear HNEG HCM HQ HN HD hb1
 obtain⟨n1,d1,rfl,rfl,H0,HQ,HN,HD,hb1⟩:=hcut
 obtain⟨w2,rfl⟩:∃W,W=wc:=⟨_,rfl⟩
 have HGC:=hdz (Zmo n1 d1 w2 (HP.out.here hb1) (by have:=HN.out;omega) (by have:=HD.out;omega))
 have HGL:=hdz (Zja (val n1) (d:=d1) (by have:=H0.out;omega))
 have HGP:=hdz (Zi2 (val n1) (val d1) (by have:=H0.out;omega))
 have HR1:=hdz (Zi0 (val n1) (val d1) H0.out)
 have HR2:=hdz (Zi1 (val n1) (val d1) H0.out)
 rw[HQ.out] at HR1 HR2
 generalize Int.gcd (val n1) (val d1)=g at*
 have HV1:=hdz (fun W (hb:Below w2.heap.size w2 W)=>Zdn n1 (txtL (g:Int)) W ((HP.out.here hb1).here hb) (by have:=HN.out;omega) (by have:=HGL.out;have:=HD.out;omega))
 have HV2:=hdz (fun W (hb:Below w2.heap.size w2 W)=>Zdn d1 (txtL (g:Int)) W ((HP.out.here hb1).here hb) (by have:=HD.out;omega) (by have:=HGL.out;have:=HD.out;omega))
 rw[Zaa] at HV1 HV2
 unfold S at HGC HV1 HV2
 go_wp2_with fail
 refine HGC.out.mono ?_
 rintro e w3 ⟨rfl,hb3⟩
 go_wp2_with fail
 refine(HV1.out w3 hb3).mono ?_
 intro e w4 h4
 obtain⟨rfl,hb4⟩:=ZbV (by have:=HGP.out;omega) h4
 have hb34:=hb3.trans (hb4.mono hb3.size)
 clear h4
 rw[HR1.out]
 go_wp2_with fail
 refine(HV2.out w4 hb34).mono ?_
 intro e w5 h5
 obtain⟨rfl,hb5⟩:=ZbV (by have:=HGP.out;omega) h5
 have hb35:=hb34.trans (hb5.mono hb34.size)
 clear h5
 rw[HR2.out]
 go_wp2_with fail
 rw[HPO.out]
 exact⟨rfl,hb1.trans (hb35.mono hb1.size)⟩
end
section
open Go.RowKit Go.Shelf
theorem Zfk:txtL 1=[49]:=by
 rw[show(1:Int)=((1:Nat):Int) from rfl,Za2]
 unfold digs
 rw[if_neg (by omega),Lib.decDigits,dif_pos (by omega)]
 decide
theorem Za7:val [49]=1:=by rw[←Zfk,Zaa]
theorem ZdN(n d:List UInt8)(w:World)(hp:Pow w)(hn:n.length≤50000)(hd:d.length≤50000)(hd0:val d≠0):
 Calls Tryz.prog 100 #[S n,S d] w (FracPost (frOf (Rat.divInt (val n) (val d))) w):=by
 have hbA:Below w.heap.size w (w.alloc (.cells #[.string ⟨#[]⟩,.string ⟨#[]⟩] 26)):=(Below.refl _ _).alloc (Nat.le_refl _) _
 have HRD:=hdz (Zeb n d (w.alloc (.cells #[.string ⟨#[]⟩,.string ⟨#[]⟩] 26)) (hp.here hbA) hn hd hd0)
 have HPO:=hdz (show FracPost (frOf (Rat.divInt (val n) (val d))) w=fun e w'=>e=.returned (FrV (frOf (Rat.divInt (val n) (val d))))∧Below w.heap.size w w' from rfl)
 have HB:=hdz (show FrB (w.alloc (.cells #[.string ⟨#[]⟩,.string ⟨#[]⟩] 26)) w.heap.size Fr.zero from FrB.new w Fr.zero)
 have HBA:=hdz hbA
 generalize FracPost (frOf (Rat.divInt (val n) (val d))) w=post at*
 generalize Rat.divInt (val n) (val d)=q at*
 clear hn hd hp hd0 hbA
 unfold S at*
 go_enter Tryz.func100,Tryz.ntmps100
 go_wp2_with fail
 generalize w.alloc _=W at*
 refine HRD.out.mono ?_
 rintro e w1 ⟨rfl,hb1⟩
 unfold S
 have HB1:=hdz (HB.out.here hb1)
 obtain⟨c0,c1⟩:=HB1.out.cells
 have f0:=HB1.out.frozen 0;have f1:=HB1.out.frozen 1
 have hb01:=HBA.out.trans (hb1.mono HBA.out.size)
 by_cases h1:q.den=1
 ·have HF:=hdz (show FrV (frOf q)=.agg #[.string ⟨(txtL q.num).toArray⟩,.string ⟨#[]⟩] by unfold FrV frOf;simp only[if_pos h1];rfl)
  rw[show txtL (q.den:Int)=[49] by rw[h1];exact Zfk]
  clear h1
  go_wp2_with fail
  refine bodyPost_ret (v:=.agg #[.string ⟨(txtL q.num).toArray⟩,.string ⟨#[]⟩]) (by simp[results,Tryz.results100,go_sem,c0,c1]) rfl ?_
  rw[HPO.out,HF.out]
  exact⟨rfl,(hb01.setCell (p:=⟨w.heap.size,0,none⟩) (Nat.le_refl _) _).setCell (p:=⟨w.heap.size,1,none⟩) (Nat.le_refl _) _⟩
 ·have HF:=hdz (show FrV (frOf q)=.agg #[.string ⟨(txtL q.num).toArray⟩,.string ⟨(txtL q.den).toArray⟩] by unfold FrV frOf;simp only[if_neg h1];rfl)
  have hne:(txtL (q.den:Int)==[49])=false:=by
   rw[Bool.eq_false_iff]
   intro h
   have h:=eq_of_beq h
   exact h1 (by rw[←Zfk] at h;have:=ZkF h;omega)
  clear h1
  generalize txtL (q.den:Int)=t at*
  go_wp2_with fail
  refine bodyPost_ret (v:=.agg #[.string ⟨(txtL q.num).toArray⟩,.string ⟨t.toArray⟩]) (by simp[results,Tryz.results100,go_sem,c0,c1]) rfl ?_
  rw[HPO.out,HF.out]
  exact⟨rfl,(hb01.setCell (p:=⟨w.heap.size,0,none⟩) (Nat.le_refl _) _).setCell (p:=⟨w.heap.size,1,none⟩) (Nat.le_refl _) _⟩
def Fr.dt(f:Fr):List UInt8:=if val f.d=0 then[49] else f.d
theorem Fr.val_dt(f:Fr):val f.dt=f.dv:=by
 unfold Fr.dt Fr.dv
 split
 ·exact Za7
 ·rfl
theorem Fr.dt_len{f:Fr}{L:Nat}(h:f.d.length≤L)(hL:1≤L):f.dt.length≤L:=by
 unfold Fr.dt
 split
 ·exact hL
 ·exact h
theorem ZbH(f:Fr)(w:World)(hd:f.d.length≤100000):Calls Tryz.prog 101 #[FrV f] w (TwoPost f.n f.dt w):=by
 have hbA:Below w.heap.size w (w.alloc (.cells #[.string ⟨f.n.toArray⟩,.string ⟨f.d.toArray⟩] 26)):=(Below.refl _ _).alloc (Nat.le_refl _) _
 have HCM:=hdz (Zar f.d [] (w.alloc (.cells #[.string ⟨f.n.toArray⟩,.string ⟨f.d.toArray⟩] 26)) hd (by simp))
 rw[show val ([]:List UInt8)=0 from ZaD,Int.sub_zero] at HCM
 have HPO:=hdz (show TwoPost f.n f.dt w=fun e w'=>e=.returned (.tuple #[S f.n,S f.dt])∧Below w.heap.size w w' from rfl)
 have HB:=hdz (FrB.new w f)
 have HBA:=hdz hbA
 generalize TwoPost f.n f.dt w=post at*
 obtain⟨c0,c1⟩:=HB.out.cells
 clear hbA hd
 unfold S FrV at*
 unfold S
 go_enter Tryz.func101,Tryz.ntmps101
 go_wp2_with fail
 generalize w.alloc _=W at*
 refine HCM.out.mono ?_
 rintro e w1 ⟨rfl,hb1⟩
 have HB1:=hdz (HB.out.here hb1)
 clear c0 c1
 obtain⟨c0,c1⟩:=HB1.out.cells
 have hb01:=HBA.out.trans (hb1.mono HBA.out.size)
 by_cases h0:val f.d=0
 ·have hs:(sgnI (val f.d)==0)=true:=by rw[h0];rfl
  rw[show f.dt=[49] by unfold Fr.dt;rw[if_pos h0]] at HPO
  clear h0
  go_wp2_with fail
  rw[HPO.out]
  exact⟨rfl,hb01⟩
 ·have hs:(sgnI (val f.d)==0)=false:=by unfold sgnI;(repeat' split)<;>simp<;>omega
  rw[show f.dt=f.d by unfold Fr.dt;rw[if_neg h0]] at HPO
  clear h0
  go_wp2_with fail
  go_quiet (fail)
  go_wp2_with fail
  rw[HPO.out]
  exact⟨rfl,bdN hb01 _⟩
end
section
open Go.RowKit Go.Shelf
structure FOp (g:Nat) (F:Int→Int→Int→Int→Int×Int):Prop where
 enters:∀args w,(callFunc g args).run Tryz.prog w=.ok (.enter g args) w
 calls:∀(a b c d:List UInt8) (p:Nat) (W:World),p<W.heap.size→W.cell? ⟨p,0,none⟩=some (.func (.func 148) #[] #[])→Pow W→a.length≤20000→b.length≤20000→c.length≤20000→d.length≤20000→
  Calls Tryz.prog g #[S a,S b,S c,S d,.pointer (some ⟨p,0,none⟩)] W (TwoPost (txtL (F (val a) (val b) (val c) (val d)).1) (txtL (F (val a) (val b) (val c) (val d)).2) W)
theorem ZgJ{a b:List UInt8}{L:Nat}(ha:a.length≤L)(hb:b.length≤L):(txtL (val a*val b)).length≤L+L+1:=Zab (Zak (Zai ha) (Zai hb))
theorem Zn3:FOp 150 (fun a b c d=>(a*d-c*b,b*d)):=⟨enters_of Tryz.func150 (by kernel_rfl) rfl,fun a b c d p w hp0 hc hp ha hb hcl hd=>by
 have HP:=hdz hp;have HC:=hdz hc
 have HM0:=hdz (fun W (hb:Below w.heap.size w W)=>ZcJ a d W (HP.out.here hb) (by omega) (by omega))
 have HM1:=hdz (fun W (hb:Below w.heap.size w W)=>ZcJ c b W (HP.out.here hb) (by omega) (by omega))
 have HM2:=hdz (fun W (hb:Below w.heap.size w W)=>ZcJ b d W (HP.out.here hb) (by omega) (by omega))
 have HA:=hdz (fun W (hb:Below w.heap.size w W)=>ZcI (txtL (val a*val d)) (txtL (val c*val b)) W (HP.out.here hb) (by have:=ZgJ (a:=a) (b:=d) (L:=20000) (by omega) (by omega);omega) (by have:=ZgJ (a:=c) (b:=b) (L:=20000) (by omega) (by omega);omega))
 rw[Zaa,Zaa] at HA
 have HPO:=hdz (show TwoPost (txtL (val a*val d-val c*val b)) (txtL (val b*val d)) w=fun e w'=>e=.returned (.tuple #[S (txtL (val a*val d-val c*val b)),S (txtL (val b*val d))])∧Below w.heap.size w w' from rfl)
 show Calls _ _ _ _ (TwoPost (txtL (val a*val d-val c*val b)) (txtL (val b*val d)) w)
 generalize TwoPost (txtL (val a*val d-val c*val b)) (txtL (val b*val d)) w=post at*
 clear hp hc ha hb hcl hd
 have c0:=HC.out
 have em:∀args w,(callFunc 148 args).run Tryz.prog w=.ok (.enter 148 args) w:=enters_of Tryz.func148 (by kernel_rfl) rfl
 unfold S at*
 go_enter Tryz.func150,Tryz.ntmps150
 go_wp2_with fail
 go_region_held3 (fun w'=>w'.cell? ⟨p,0,none⟩=some (.func (.func 148) #[] #[]))
  (first
    |go_keep
    |exact(hz0.cell (p:=⟨p,0,none⟩) hp0).trans HC.out
    |exact(hz1.cell (p:=⟨p,0,none⟩) hp0).trans HC.out
    |exact(hz2.cell (p:=⟨p,0,none⟩) hp0).trans HC.out
    |exact(hz3.cell (p:=⟨p,0,none⟩) hp0).trans HC.out)
  (first
    |(go_at_call_of 148 (Value.string ⟨a.toArray⟩);refine(HM0.out _ ((Below.refl _ w).drew)).mono ?_;rintro e w0 ⟨rfl,hb0⟩;have hz0:Below w.heap.size w w0:=((Below.refl _ w).drew).trans (hb0.mono (by first|exact Nat.le_refl _|exact((Below.refl _ w).drew).size)))
    |(go_at_call_of 148 (Value.string ⟨c.toArray⟩);refine(HM1.out _ (hz0)).mono ?_;rintro e w1 ⟨rfl,hb1⟩;have hz1:Below w.heap.size w w1:=(hz0).trans (hb1.mono (by first|exact Nat.le_refl _|exact(hz0).size)))
    |(go_at_call 67;refine(HA.out _ (hz1)).mono ?_;rintro e w2 ⟨rfl,hb2⟩;have hz2:Below w.heap.size w w2:=(hz1).trans (hb2.mono (by exact(hz1).size)))
    |(go_at_call_of 148 (Value.string ⟨b.toArray⟩);refine(HM2.out _ (hz2)).mono ?_;rintro e w3 ⟨rfl,hb3⟩;have hz3:Below w.heap.size w w3:=(hz2).trans (hb3.mono (by first|exact Nat.le_refl _|exact(hz2).size))))
 all_goals
  go_wp2_with fail
  rw[HPO.out]
  exact⟨rfl,hz3⟩⟩
theorem Zn4:FOp 151 (fun a b c d=>(a*c,b*d)):=⟨enters_of Tryz.func151 (by kernel_rfl) rfl,fun a b c d p w hp0 hc hp ha hb hcl hd=>by
 have HP:=hdz hp;have HC:=hdz hc
 have HM0:=hdz (fun W (hb:Below w.heap.size w W)=>ZcJ a c W (HP.out.here hb) (by omega) (by omega))
 have HM1:=hdz (fun W (hb:Below w.heap.size w W)=>ZcJ b d W (HP.out.here hb) (by omega) (by omega))
 have HPO:=hdz (show TwoPost (txtL (val a*val c)) (txtL (val b*val d)) w=fun e w'=>e=.returned (.tuple #[S (txtL (val a*val c)),S (txtL (val b*val d))])∧Below w.heap.size w w' from rfl)
 show Calls _ _ _ _ (TwoPost (txtL (val a*val c)) (txtL (val b*val d)) w)
 generalize TwoPost (txtL (val a*val c)) (txtL (val b*val d)) w=post at*
 clear hp hc ha hb hcl hd
 have c0:=HC.out
 have em:∀args w,(callFunc 148 args).run Tryz.prog w=.ok (.enter 148 args) w:=enters_of Tryz.func148 (by kernel_rfl) rfl
 unfold S at*
 go_enter Tryz.func151,Tryz.ntmps151
 go_wp2_with fail
 go_region_held3 (fun w'=>w'.cell? ⟨p,0,none⟩=some (.func (.func 148) #[] #[]))
  (first
    |go_keep
    |exact(hz0.cell (p:=⟨p,0,none⟩) hp0).trans HC.out
    |exact(hz1.cell (p:=⟨p,0,none⟩) hp0).trans HC.out)
  (first
    |(go_at_call_of 148 (Value.string ⟨a.toArray⟩);refine(HM0.out _ ((Below.refl _ w).drew)).mono ?_;rintro e w0 ⟨rfl,hb0⟩;have hz0:Below w.heap.size w w0:=((Below.refl _ w).drew).trans (hb0.mono (by first|exact Nat.le_refl _|exact((Below.refl _ w).drew).size)))
    |(go_at_call_of 148 (Value.string ⟨b.toArray⟩);refine(HM1.out _ (hz0)).mono ?_;rintro e w1 ⟨rfl,hb1⟩;have hz1:Below w.heap.size w w1:=(hz0).trans (hb1.mono (by first|exact Nat.le_refl _|exact(hz0).size))))
 all_goals
  go_wp2_with fail
  rw[HPO.out]
  exact⟨rfl,hz1⟩⟩
end
section
open Go.RowKit Go.Shelf
theorem ZfV(g:Nat)(F:Int→Int→Int→Int→Int×Int)(hop:FOp g F)(p:Nat)(f h:Fr)(w:World)(hp0:p<w.heap.size)(hc:w.cell? ⟨p,0,none⟩=some (.func (.func 148) #[] #[]))(hp:Pow w)(hf:f.Sz 20000)(hh:h.Sz 20000)
 (h0:(F (val f.n) f.dv (val h.n) h.dv).2≠0) (hl1:(txtL (F (val f.n) f.dv (val h.n) h.dv).1).length≤50000) (hl2:(txtL (F (val f.n) f.dv (val h.n) h.dv).2).length≤50000):
 Calls Tryz.prog 108 #[.func (.func g) #[] #[.pointer (some ⟨p,0,none⟩)],FrV f,FrV h] w (FracPost (frOf (Rat.divInt (F (val f.n) f.dv (val h.n) h.dv).1 (F (val f.n) f.dv (val h.n) h.dv).2)) w):=by
 have HOP:=hdz (fun W hlt hc hp=>hop.calls f.n f.dt h.n h.dt p W hlt hc hp hf.1 (Fr.dt_len hf.2 (by omega)) hh.1 (Fr.dt_len hh.2 (by omega)))
 simp only[Fr.val_dt] at HOP
 have eg:=hop.enters
 have HPO:=hdz (show FracPost (frOf (Rat.divInt (F (val f.n) f.dv (val h.n) h.dv).1 (F (val f.n) f.dv (val h.n) h.dv).2)) w=fun e w'=>e=.returned (FrV (frOf (Rat.divInt (F (val f.n) f.dv (val h.n) h.dv).1 (F (val f.n) f.dv (val h.n) h.dv).2)))∧Below w.heap.size w w' from rfl)
 generalize FracPost (frOf (Rat.divInt (F (val f.n) f.dv (val h.n) h.dv).1 (F (val f.n) f.dv (val h.n) h.dv).2)) w=post at*
 generalize (F (val f.n) f.dv (val h.n) h.dv).1=x at*
 generalize (F (val f.n) f.dv (val h.n) h.dv).2=y at*
 have hB1:FrB (((w.alloc (.cells #[.string ⟨f.n.toArray⟩,.string ⟨f.d.toArray⟩] 26)).alloc (.cells #[.string ⟨h.n.toArray⟩,.string ⟨h.d.toArray⟩] 26)).alloc (.cells #[.string ⟨#[]⟩,.string ⟨#[]⟩] 26)) w.heap.size f:=((FrB.new w f).alloc _).alloc _
 have hB2:FrB (((w.alloc (.cells #[.string ⟨f.n.toArray⟩,.string ⟨f.d.toArray⟩] 26)).alloc (.cells #[.string ⟨h.n.toArray⟩,.string ⟨h.d.toArray⟩] 26)).alloc (.cells #[.string ⟨#[]⟩,.string ⟨#[]⟩] 26)) (w.heap.size+1) h:=by
  have:=(FrB.new (w.alloc (.cells #[.string ⟨f.n.toArray⟩,.string ⟨f.d.toArray⟩] 26)) h).alloc (.cells #[.string ⟨#[]⟩,.string ⟨#[]⟩] 26)
  simpa using this
 have hB3:FrB (((w.alloc (.cells #[.string ⟨f.n.toArray⟩,.string ⟨f.d.toArray⟩] 26)).alloc (.cells #[.string ⟨h.n.toArray⟩,.string ⟨h.d.toArray⟩] 26)).alloc (.cells #[.string ⟨#[]⟩,.string ⟨#[]⟩] 26)) (w.heap.size+1+1) Fr.zero:=by
  have:=FrB.new ((w.alloc (.cells #[.string ⟨f.n.toArray⟩,.string ⟨f.d.toArray⟩] 26)).alloc (.cells #[.string ⟨h.n.toArray⟩,.string ⟨h.d.toArray⟩] 26)) Fr.zero
  simp only[World.size_alloc] at this
  exact this
 have hbA:Below w.heap.size w (((w.alloc (.cells #[.string ⟨f.n.toArray⟩,.string ⟨f.d.toArray⟩] 26)).alloc (.cells #[.string ⟨h.n.toArray⟩,.string ⟨h.d.toArray⟩] 26)).alloc (.cells #[.string ⟨#[]⟩,.string ⟨#[]⟩] 26)):=(((Below.refl _ _).alloc (Nat.le_refl _) _).alloc (by simp) _).alloc (by simp;omega) _
 have HB1:=hdz hB1;have HB2:=hdz hB2;have HB3:=hdz hB3;have HBA:=hdz hbA
 have HP1:=hdz (fun W=>ZbH f W (by have:=hf.2;omega))
 have HP2:=hdz (fun W=>ZbH h W (by have:=hh.2;omega))
 have HMD:=hdz (fun W hp=>ZdN (txtL x) (txtL y) W hp hl1 hl2 (by rw[Zaa];exact h0))
 rw[Zaa,Zaa] at HMD
 have HC:=hdz hc;have HP:=hdz hp
 obtain⟨x0,x1⟩:=hB1.cells
 clear hB1 hB2 hB3 hbA hc hp hf hh hl1 hl2 h0 hop
 unfold FrV at*
 unfold S at*
 go_enter Tryz.func108,Tryz.ntmps108
 go_wp2_with fail
 generalize (((w.alloc (.cells #[.string ⟨f.n.toArray⟩,.string ⟨f.d.toArray⟩] 26)).alloc (.cells #[.string ⟨h.n.toArray⟩,.string ⟨h.d.toArray⟩] 26)).alloc (.cells #[.string ⟨#[]⟩,.string ⟨#[]⟩] 26))=W at*
 refine(HP1.out W).mono ?_
 rintro e w1 ⟨rfl,hb1⟩
 unfold S
 have hb01:=HBA.out.trans (hb1.mono HBA.out.size)
 clear x0 x1
 obtain⟨y0,y1⟩:=(HB2.out.here hb1).cells
 go_wp2_with fail
 refine(HP2.out w1).mono ?_
 rintro e w2 ⟨rfl,hb2⟩
 unfold S
 have hb02:=hb01.trans (hb2.mono hb01.size)
 have hbW2:=hb1.trans (hb2.mono hb1.size)
 have HO2:=hdz (HOP.out w2 (Nat.lt_of_lt_of_le hp0 hb02.size) ((hb02.cell (p:=⟨p,0,none⟩) hp0).trans HC.out) (HP.out.here hb02))
 clear y0 y1
 go_wp2_with fail
 refine HO2.out.mono ?_
 rintro e w3 ⟨rfl,hb3⟩
 unfold S
 have hb03:=hb02.trans (hb3.mono hb02.size)
 have hbW3:=hbW2.trans (hb3.mono hbW2.size)
 have HM3:=hdz (HMD.out w3 (HP.out.here hb03))
 go_wp2_with fail
 refine HM3.out.mono ?_
 rintro e w4 ⟨rfl,hb4⟩
 have hbW4:=hbW3.trans (hb4.mono hbW3.size)
 have hb04:=hb03.trans (hb4.mono hb03.size)
 have HB4:=hdz (HB3.out.here hbW4)
 obtain⟨z0,z1⟩:=HB4.out.cells
 have f0:=HB4.out.frozen 0;have f1:=HB4.out.frozen 1
 generalize frOf (Rat.divInt x y)=res at*
 unfold FrV S
 go_wp2_with fail
 refine bodyPost_ret (v:=.agg #[.string ⟨res.n.toArray⟩,.string ⟨res.d.toArray⟩]) (by simp[results,Tryz.results108,go_sem,z0,z1]) rfl ?_
 rw[HPO.out]
 exact⟨rfl,(hb04.setCell (p:=⟨w.heap.size+1+1,0,none⟩) (by simp only;omega) _).setCell (p:=⟨w.heap.size+1+1,1,none⟩) (by simp only;omega) _⟩
def OpsPost(w:World)(e:Ending)(w':World):Prop:=
 ∃p,e=.returned (.agg #[.func (.func 149) #[] #[.pointer (some ⟨p,0,none⟩)],.func (.func 150) #[] #[.pointer (some ⟨p,0,none⟩)],.func (.func 151) #[] #[.pointer (some ⟨p,0,none⟩)],.func (.func 152) #[] #[.pointer (some ⟨p,0,none⟩)]])∧
  p<w'.heap.size∧w'.cell? ⟨p,0,none⟩=some (.func (.func 148) #[] #[])∧Below w.heap.size w w'
theorem Zjb(w:World):Calls Tryz.prog 109 #[] w (OpsPost w):=by
 have HPO:=hdz (show OpsPost w=fun e w'=>∃p,e=.returned (.agg #[.func (.func 149) #[] #[.pointer (some ⟨p,0,none⟩)],.func (.func 150) #[] #[.pointer (some ⟨p,0,none⟩)],.func (.func 151) #[] #[.pointer (some ⟨p,0,none⟩)],.func (.func 152) #[] #[.pointer (some ⟨p,0,none⟩)]])∧
  p<w'.heap.size∧w'.cell? ⟨p,0,none⟩=some (.func (.func 148) #[] #[])∧Below w.heap.size w w' from rfl)
 generalize OpsPost w=post at*
 go_enter Tryz.func109,Tryz.ntmps109
 go_wp2_with fail
 refine bodyPost_ret (v:=.agg #[.func (.func 149) #[] #[.pointer (some ⟨w.heap.size+1,0,none⟩)],.func (.func 150) #[] #[.pointer (some ⟨w.heap.size+1,0,none⟩)],.func (.func 151) #[] #[.pointer (some ⟨w.heap.size+1,0,none⟩)],.func (.func 152) #[] #[.pointer (some ⟨w.heap.size+1,0,none⟩)]]) (by simp[results,Tryz.results109,go_sem]) rfl ?_
 rw[HPO.out]
 refine⟨w.heap.size+1,rfl,by simp,?_,((Below.refl _ _).alloc (Nat.le_refl _) _).alloc (by simp) _⟩
 have:=World.cell?_alloc_new (w.alloc (.cells #[.func (.func 149) #[] #[.pointer (some ⟨w.heap.size+1,0,none⟩)],.func (.func 150) #[] #[.pointer (some ⟨w.heap.size+1,0,none⟩)],.func (.func 151) #[] #[.pointer (some ⟨w.heap.size+1,0,none⟩)],.func (.func 152) #[] #[.pointer (some ⟨w.heap.size+1,0,none⟩)]] 139))
 simp only[World.size_alloc] at this
 simp[this]
end
section
open Go.RowKit Go.Shelf
structure Fr3 (w:World) (p:Nat) (f h:Fr) (W:World):Prop where
 a:FrB W p f
 b:FrB W (p+1) h
 c:FrB W (p+1+1) Fr.zero
 bl:Below w.heap.size w W
 hp:w.heap.size≤p
theorem Fr3.here{w:World}{p:Nat}{f h:Fr}{W W':World}(H:Fr3 w p f h W)(hb:Below W.heap.size W W'):Fr3 w p f h W':=⟨H.a.here hb,H.b.here hb,H.c.here hb,H.bl.trans (hb.mono H.bl.size),H.hp⟩
theorem Fr3.held{w:World}{p:Nat}{f h:Fr}{W:World}(H:Fr3 w p f h W):W.cell? ⟨p,0,none⟩=some (.string ⟨f.n.toArray⟩)∧W.cell? ⟨p,1,none⟩=some (.string ⟨f.d.toArray⟩)∧W.cell? ⟨p+1,0,none⟩=some (.string ⟨h.n.toArray⟩)∧W.cell? ⟨p+1,1,none⟩=some (.string ⟨h.d.toArray⟩):=
 ⟨H.a.cells.1,H.a.cells.2,H.b.cells.1,H.b.cells.2⟩
theorem Fr3.heldS{w:World}{p:Nat}{f h:Fr}{W:World}(H:Fr3 w p f h W)(u v:Value):((W.setCell ⟨p+1+1,0,none⟩ u).setCell ⟨p+1+1,1,none⟩ v).cell? ⟨p,0,none⟩=some (.string ⟨f.n.toArray⟩)∧((W.setCell ⟨p+1+1,0,none⟩ u).setCell ⟨p+1+1,1,none⟩ v).cell? ⟨p,1,none⟩=some (.string ⟨f.d.toArray⟩)∧((W.setCell ⟨p+1+1,0,none⟩ u).setCell ⟨p+1+1,1,none⟩ v).cell? ⟨p+1,0,none⟩=some (.string ⟨h.n.toArray⟩)∧((W.setCell ⟨p+1+1,0,none⟩ u).setCell ⟨p+1+1,1,none⟩ v).cell? ⟨p+1,1,none⟩=some (.string ⟨h.d.toArray⟩):=
 have h1:=((H.a.far (a:=⟨p+1+1,0,none⟩) (by simp only;omega) u).far (a:=⟨p+1+1,1,none⟩) (by simp only;omega) v).cells
 have h2:=((H.b.far (a:=⟨p+1+1,0,none⟩) (by simp only;omega) u).far (a:=⟨p+1+1,1,none⟩) (by simp only;omega) v).cells
 ⟨h1.1,h1.2,h2.1,h2.2⟩
theorem Fr3.new(w:World)(f h:Fr):Fr3 w w.heap.size f h (((w.alloc (.cells #[.string ⟨f.n.toArray⟩,.string ⟨f.d.toArray⟩] 26)).alloc (.cells #[.string ⟨h.n.toArray⟩,.string ⟨h.d.toArray⟩] 26)).alloc (.cells #[.string ⟨#[]⟩,.string ⟨#[]⟩] 26)):=by
 refine⟨((FrB.new w f).alloc _).alloc _,?_,?_,(((Below.refl _ _).alloc (Nat.le_refl _) _).alloc (by simp) _).alloc (by simp;omega) _,Nat.le_refl _⟩
 ·have:=(FrB.new (w.alloc (.cells #[.string ⟨f.n.toArray⟩,.string ⟨f.d.toArray⟩] 26)) h).alloc (.cells #[.string ⟨#[]⟩,.string ⟨#[]⟩] 26)
  simp only[World.size_alloc] at this
  exact this
 ·have:=FrB.new ((w.alloc (.cells #[.string ⟨f.n.toArray⟩,.string ⟨f.d.toArray⟩] 26)).alloc (.cells #[.string ⟨h.n.toArray⟩,.string ⟨h.d.toArray⟩] 26)) Fr.zero
  simp only[World.size_alloc] at this
  exact this
theorem ZkH(p:Nat)(W:World):(Instr.index 139 (.agg #[.func (.func 149) #[] #[.pointer (some ⟨p,0,none⟩)],.func (.func 150) #[] #[.pointer (some ⟨p,0,none⟩)],.func (.func 151) #[] #[.pointer (some ⟨p,0,none⟩)],.func (.func 152) #[] #[.pointer (some ⟨p,0,none⟩)]]) (.int .i64 1)).run Tryz.prog W=.ok (.func (.func 150) #[] #[.pointer (some ⟨p,0,none⟩)]) W:=by kernel_rfl
theorem ZkI(p:Nat)(W:World):(Instr.index 139 (.agg #[.func (.func 149) #[] #[.pointer (some ⟨p,0,none⟩)],.func (.func 150) #[] #[.pointer (some ⟨p,0,none⟩)],.func (.func 151) #[] #[.pointer (some ⟨p,0,none⟩)],.func (.func 152) #[] #[.pointer (some ⟨p,0,none⟩)]]) (.int .i64 2)).run Tryz.prog W=.ok (.func (.func 151) #[] #[.pointer (some ⟨p,0,none⟩)]) W:=by kernel_rfl
theorem Zhy{n:Int}{L M:Nat}(h:n.natAbs<10^L)(hL:L+1≤M):(txtL n).length≤M:=Nat.le_trans (Zab h) hL
theorem Zhz(f h:Fr)(w:World)(hp:Pow w)(hf:f.Sz 20000)(hh:h.Sz 20000):Calls Tryz.prog 102 #[FrV f,FrV h] w (FracPost (frOf (f.rat-h.rat)) w):=by
 have HAP:=hdz (fun p W hlt hc hpw=>by
  obtain⟨K,hKe⟩:∃K:Nat,K=20000:=⟨_,rfl⟩
  rw[←hKe] at hf hh
  have hK:1≤K:=by omega
  exact ZfV 150 _ Zn3 p f h W hlt hc hpw (by rw[←hKe];exact hf) (by rw[←hKe];exact hh) (Int.mul_ne_zero f.dv_ne h.dv_ne) (Zhy (Zcm (Zak (Zai hf.1) (Fr.dv_lt hh.2 hK)) (Zak (Zai hh.1) (Fr.dv_lt hf.2 hK))) (by omega)) (Zhy (Zak (Fr.dv_lt hf.2 hK) (Fr.dv_lt hh.2 hK)) (by omega)))
 simp only[←ZiZ] at HAP
 have HPO:=hdz (show FracPost (frOf (f.rat-h.rat)) w=fun e w'=>e=.returned (FrV (frOf (f.rat-h.rat)))∧Below w.heap.size w w' from rfl)
 generalize FracPost (frOf (f.rat-h.rat)) w=post at*
 generalize frOf (f.rat-h.rat)=res at*
 have H3:=hdz (Fr3.new w f h)
 have HP:=hdz hp
 obtain⟨x0,x1,y0,y1⟩:=H3.out.held
 clear hp hf hh
 unfold FrV at*
 unfold S at*
 go_enter Tryz.func102,Tryz.ntmps102
 go_upto_region 1 with (fail)
 generalize (((w.alloc (.cells #[.string ⟨f.n.toArray⟩,.string ⟨f.d.toArray⟩] 26)).alloc (.cells #[.string ⟨h.n.toArray⟩,.string ⟨h.d.toArray⟩] 26)).alloc (.cells #[.string ⟨#[]⟩,.string ⟨#[]⟩] 26))=W at*
 go_region_held3 (fun w'=>w'.cell? ⟨w.heap.size,0,none⟩=some (.string ⟨f.n.toArray⟩)∧w'.cell? ⟨w.heap.size,1,none⟩=some (.string ⟨f.d.toArray⟩)∧w'.cell? ⟨w.heap.size+1,0,none⟩=some (.string ⟨h.n.toArray⟩)∧w'.cell? ⟨w.heap.size+1,1,none⟩=some (.string ⟨h.d.toArray⟩))
  (first
    |exact(H3.out.here hz2).heldS _ _
    |exact(H3.out.here hz2).held
    |exact(H3.out.here hz).held
    |go_keep)
  (first
    |(go_at_call 109;refine(Zjb _).mono ?_;rintro e w1 ⟨p,rfl,hlt,hc,hb1⟩;have hz:Below W.heap.size W w1:=(Below.refl _ W).drew.trans hb1;have hix:=ZkH p w1)
    |(go_at_call 108;refine(HAP.out p _ hlt hc (HP.out.here (H3.out.here hz).bl)).mono ?_;rintro e w2 ⟨rfl,hb2⟩;unfold FrV S;have hz2:=hz.trans (hb2.mono hz.size);have z0:=(H3.out.here hz2).c.cells.1;have z1:=(H3.out.here hz2).c.cells.2;have f0:=(H3.out.here hz2).c.frozen 0;have f1:=(H3.out.here hz2).c.frozen 1))
 all_goals
  go_wp2_with fail
  refine bodyPost_ret (v:=.agg #[.string ⟨res.n.toArray⟩,.string ⟨res.d.toArray⟩]) (by simp[results,Tryz.results102,go_sem,z0,z1]) rfl ?_
  rw[HPO.out]
  exact⟨rfl,((H3.out.here hz2).bl.setCell (p:=⟨w.heap.size+1+1,0,none⟩) (by simp only;omega) _).setCell (p:=⟨w.heap.size+1+1,1,none⟩) (by simp only;omega) _⟩
theorem ZcY(f h:Fr)(w:World)(hp:Pow w)(hf:f.Sz 20000)(hh:h.Sz 20000):Calls Tryz.prog 55 #[FrV f,FrV h] w (FracPost (frOf (f.rat*h.rat)) w):=by
 have HAP:=hdz (fun p W hlt hc hpw=>by
  obtain⟨K,hKe⟩:∃K:Nat,K=20000:=⟨_,rfl⟩
  rw[←hKe] at hf hh
  have hK:1≤K:=by omega
  exact ZfV 151 _ Zn4 p f h W hlt hc hpw (by rw[←hKe];exact hf) (by rw[←hKe];exact hh) (Int.mul_ne_zero f.dv_ne h.dv_ne) (Zhy (Zak (Zai hf.1) (Zai hh.1)) (by omega)) (Zhy (Zak (Fr.dv_lt hf.2 hK) (Fr.dv_lt hh.2 hK)) (by omega)))
 simp only[←ZgI] at HAP
 have HPO:=hdz (show FracPost (frOf (f.rat*h.rat)) w=fun e w'=>e=.returned (FrV (frOf (f.rat*h.rat)))∧Below w.heap.size w w' from rfl)
 generalize FracPost (frOf (f.rat*h.rat)) w=post at*
 generalize frOf (f.rat*h.rat)=res at*
 have H3:=hdz (Fr3.new w f h)
 have HP:=hdz hp
 obtain⟨x0,x1,y0,y1⟩:=H3.out.held
 clear hp hf hh
 unfold FrV at*
 unfold S at*
 go_enter Tryz.func55,Tryz.ntmps55
 go_upto_region 1 with (fail)
 generalize (((w.alloc (.cells #[.string ⟨f.n.toArray⟩,.string ⟨f.d.toArray⟩] 26)).alloc (.cells #[.string ⟨h.n.toArray⟩,.string ⟨h.d.toArray⟩] 26)).alloc (.cells #[.string ⟨#[]⟩,.string ⟨#[]⟩] 26))=W at*
 go_region_held3 (fun w'=>w'.cell? ⟨w.heap.size,0,none⟩=some (.string ⟨f.n.toArray⟩)∧w'.cell? ⟨w.heap.size,1,none⟩=some (.string ⟨f.d.toArray⟩)∧w'.cell? ⟨w.heap.size+1,0,none⟩=some (.string ⟨h.n.toArray⟩)∧w'.cell? ⟨w.heap.size+1,1,none⟩=some (.string ⟨h.d.toArray⟩))
  (first
    |exact(H3.out.here hz2).heldS _ _
    |exact(H3.out.here hz2).held
    |exact(H3.out.here hz).held
    |go_keep)
  (first
    |(go_at_call 109;refine(Zjb _).mono ?_;rintro e w1 ⟨p,rfl,hlt,hc,hb1⟩;have hz:Below W.heap.size W w1:=(Below.refl _ W).drew.trans hb1;have hix:=ZkI p w1)
    |(go_at_call 108;refine(HAP.out p _ hlt hc (HP.out.here (H3.out.here hz).bl)).mono ?_;rintro e w2 ⟨rfl,hb2⟩;unfold FrV S;have hz2:=hz.trans (hb2.mono hz.size);have z0:=(H3.out.here hz2).c.cells.1;have z1:=(H3.out.here hz2).c.cells.2;have f0:=(H3.out.here hz2).c.frozen 0;have f1:=(H3.out.here hz2).c.frozen 1))
 all_goals
  go_wp2_with fail
  refine bodyPost_ret (v:=.agg #[.string ⟨res.n.toArray⟩,.string ⟨res.d.toArray⟩]) (by simp[results,Tryz.results55,go_sem,z0,z1]) rfl ?_
  rw[HPO.out]
  exact⟨rfl,((H3.out.here hz2).bl.setCell (p:=⟨w.heap.size+1+1,0,none⟩) (by simp only;omega) _).setCell (p:=⟨w.heap.size+1+1,1,none⟩) (by simp only;omega) _⟩
end
section
open Go.RowKit
theorem Zay(n:Int):Rat.divInt n 1=(n:Rat):=by
 have:=Rat.num_divInt_den (n:Rat)
 simpa using this
end
section
open Go.RowKit Go.Shelf
def QuoPost(r:Fr×Int)(w:World)(e:Ending)(w':World):Prop:=e=.returned (.tuple #[FrV r.1,.int .i64 r.2])∧Below w.heap.size w w'
theorem ZhA(n:Int):(sgnI n==0)=decide (n=0):=by
 unfold sgnI
 rw[Bool.eq_iff_iff]
 simp
 (repeat' split)<;>omega
theorem Znj{f h:Fr}{L:Nat}(hf:f.Sz L)(hh:h.Sz L)(hL:1≤L):(frOf (f.rat-h.rat)).Sz (L+L+1+1):=Zam (Zni hf hh hL)
theorem ZdB(f h:Fr)(w:World)(hp:Pow w)(hf:f.Sz 20000)(hh:h.Sz 20000):Calls Tryz.prog 45 #[FrV f,FrV h] w (CmpIPost (cmpR f.rat h.rat) w):=by
 have HSU:=hdz (fun W hp=>Zhz f h W hp hf hh)
 have hsz:(frOf (f.rat-h.rat)).Sz 40002:=by
  obtain⟨K,hKe⟩:∃K:Nat,K=20000:=⟨_,rfl⟩
  rw[←hKe] at hf hh
  have:=Znj hf hh (by omega)
  rw[hKe] at this
  exact this
 have HCR:=hdz (show cmpR f.rat h.rat=sgnI (val (frOf (f.rat-h.rat)).n-val []) by
  rw[ZkG,ZaD,Int.sub_zero];unfold frOf;simp only[Zaa])
 have HPO:=hdz (show CmpIPost (cmpR f.rat h.rat) w=fun e w'=>e=.returned (.int .i64 (cmpR f.rat h.rat))∧Below w.heap.size w w' from rfl)
 generalize CmpIPost (cmpR f.rat h.rat) w=post at*
 rw[HCR.out] at HPO
 generalize frOf (f.rat-h.rat)=r at*
 have HPA:=hdz (fun W=>ZbH r W (by have:=hsz.2;omega))
 have HCM:=hdz (fun W=>Zar r.n [] W (by have:=hsz.1;omega) (by simp))
 have HP:=hdz hp
 have hB1:FrB ((w.alloc (.cells #[.string ⟨f.n.toArray⟩,.string ⟨f.d.toArray⟩] 26)).alloc (.cells #[.string ⟨h.n.toArray⟩,.string ⟨h.d.toArray⟩] 26)) w.heap.size f:=(FrB.new w f).alloc _
 have hB2:FrB ((w.alloc (.cells #[.string ⟨f.n.toArray⟩,.string ⟨f.d.toArray⟩] 26)).alloc (.cells #[.string ⟨h.n.toArray⟩,.string ⟨h.d.toArray⟩] 26)) (w.heap.size+1) h:=by
  have:=FrB.new (w.alloc (.cells #[.string ⟨f.n.toArray⟩,.string ⟨f.d.toArray⟩] 26)) h
  simp only[World.size_alloc] at this
  exact this
 have hbA:Below w.heap.size w ((w.alloc (.cells #[.string ⟨f.n.toArray⟩,.string ⟨f.d.toArray⟩] 26)).alloc (.cells #[.string ⟨h.n.toArray⟩,.string ⟨h.d.toArray⟩] 26)):=((Below.refl _ _).alloc (Nat.le_refl _) _).alloc (by simp) _
 obtain⟨x0,x1⟩:=hB1.cells
 obtain⟨y0,y1⟩:=hB2.cells
 have HBA:=hdz hbA
 clear hp hf hh hsz HCR hB1 hB2 hbA
 unfold FrV at*
 unfold S at*
 go_enter Tryz.func45,Tryz.ntmps45
 go_wp2_with fail
 generalize (w.alloc (.cells #[.string ⟨f.n.toArray⟩,.string ⟨f.d.toArray⟩] 26)).alloc (.cells #[.string ⟨h.n.toArray⟩,.string ⟨h.d.toArray⟩] 26)=W at*
 refine(HSU.out W (HP.out.here HBA.out)).mono ?_
 rintro e w1 ⟨rfl,hb1⟩
 unfold FrV S
 have hb01:=HBA.out.trans (hb1.mono HBA.out.size)
 go_wp2_with fail
 refine(HPA.out w1).mono ?_
 rintro e w2 ⟨rfl,hb2⟩
 unfold S
 have hb02:=hb01.trans (hb2.mono hb01.size)
 go_wp2_with fail
 refine(HCM.out w2).mono ?_
 rintro e w3 ⟨rfl,hb3⟩
 have hb03:=hb02.trans (hb3.mono hb02.size)
 go_wp2_with fail
 rw[HPO.out]
 exact⟨rfl,hb03⟩
theorem Zdo(a:List UInt8)(w:World)(hp:Pow w)(ha:a.length≤50000):Calls Tryz.prog 60 #[S a] w (FracPost (frOf (val a)) w):=by
 have hbA:Below w.heap.size w (w.alloc (.cells #[.string ⟨#[]⟩,.string ⟨#[]⟩] 26)):=(Below.refl _ _).alloc (Nat.le_refl _) _
 have HMD:=hdz (ZdN a [49] (w.alloc (.cells #[.string ⟨#[]⟩,.string ⟨#[]⟩] 26)) (hp.here hbA) ha (by simp) (by rw[Za7];omega))
 rw[Za7,Zay] at HMD
 have HPO:=hdz (show FracPost (frOf (val a)) w=fun e w'=>e=.returned (FrV (frOf (val a)))∧Below w.heap.size w w' from rfl)
 generalize FracPost (frOf (val a)) w=post at*
 generalize frOf (val a)=res at*
 have HB:=hdz (show FrB (w.alloc (.cells #[.string ⟨#[]⟩,.string ⟨#[]⟩] 26)) w.heap.size Fr.zero from FrB.new w Fr.zero)
 have HBA:=hdz hbA
 clear hp ha hbA
 unfold FrV at*
 unfold S at*
 go_enter Tryz.func60,Tryz.ntmps60
 go_wp2_with fail
 generalize w.alloc _=W at*
 refine HMD.out.mono ?_
 rintro e w1 ⟨rfl,hb1⟩
 unfold FrV S
 have HB1:=hdz (HB.out.here hb1)
 obtain⟨c0,c1⟩:=HB1.out.cells
 have f0:=HB1.out.frozen 0;have f1:=HB1.out.frozen 1
 have hb01:=HBA.out.trans (hb1.mono HBA.out.size)
 go_wp2_with fail
 refine bodyPost_ret (v:=.agg #[.string ⟨res.n.toArray⟩,.string ⟨res.d.toArray⟩]) (by simp[results,Tryz.results60,go_sem,c0,c1]) rfl ?_
 rw[HPO.out]
 exact⟨rfl,(hb01.setCell (p:=⟨w.heap.size,0,none⟩) (Nat.le_refl _) _).setCell (p:=⟨w.heap.size,1,none⟩) (Nat.le_refl _) _⟩
def chkF(f:Fr):Int:=if f.ok then 0 else 1
theorem ZbI(f:Fr)(w:World)(hp:Pow w)(hf:f.Sz 20000):Calls Tryz.prog 43 #[FrV f] w (CmpIPost (chkF f) w):=by
 have hbA:Below w.heap.size w (w.alloc (.cells #[.string ⟨f.n.toArray⟩,.string ⟨f.d.toArray⟩] 26)):=(Below.refl _ _).alloc (Nat.le_refl _) _
 have HPA:=hdz (fun W=>ZbH f W (by have:=hf.2;omega))
 have HMD:=hdz (fun W hp=>ZdN f.n f.dt W hp (by have:=hf.1;omega) (by have:=Fr.dt_len hf.2 (by omega);omega) (by rw[Fr.val_dt];exact f.dv_ne))
 rw[Fr.val_dt,show Rat.divInt (val f.n) f.dv=f.rat from rfl] at HMD
 have HPO:=hdz (show CmpIPost (chkF f) w=fun e w'=>e=.returned (.int .i64 (chkF f))∧Below w.heap.size w w' from rfl)
 have HCK:=hdz (show chkF f=if f=frOf f.rat then 0 else 1 from rfl)
 generalize CmpIPost (chkF f) w=post at*
 generalize frOf f.rat=g at*
 have HB:=hdz (FrB.new w f)
 have HBA:=hdz hbA
 have HP:=hdz hp
 obtain⟨x0,x1⟩:=HB.out.cells
 clear hp hf hbA
 have HEQ:=hdz (show chkF f=if(f.n==g.n)&&(f.d==g.d) then 0 else 1 by
  rw[HCK.out]
  by_cases h:f=g
  ·subst h;simp
  ·rw[if_neg h,if_neg]
   intro h2
   simp at h2
   exact h (Fr.ext_ h2.1 h2.2))
 clear HCK
 unfold FrV at*
 unfold S at*
 cases hn:(f.n==g.n)<;>cases hd:(f.d==g.d)
 all_goals
  rw[hn,hd] at HEQ
  simp only[Bool.and_true,Bool.and_false,Bool.false_eq_true,if_true,if_false] at HEQ
  go_enter Tryz.func43,Tryz.ntmps43
  go_upto_region 1 with (fail)
  generalize w.alloc _=W at*
  go_region_held3 (fun w'=>w'.cell? ⟨w.heap.size,0,none⟩=some (.string ⟨f.n.toArray⟩)∧w'.cell? ⟨w.heap.size,1,none⟩=some (.string ⟨f.d.toArray⟩))
   (first
     |exact(HB.out.here hz2).cells
     |exact(HB.out.here hz).cells
     |go_keep)
   (first
     |(go_at_call 101;refine(HPA.out _).mono ?_;rintro e w1 ⟨rfl,hb1⟩;unfold S;have hz:Below W.heap.size W w1:=(Below.refl _ W).drew.trans hb1)
     |(go_at_call 100;refine(HMD.out _ (HP.out.here (HBA.out.trans (hz.mono HBA.out.size)))).mono ?_;rintro e w2 ⟨rfl,hb2⟩;unfold FrV S;have hz2:=hz.trans (hb2.mono hz.size)))
  all_goals
   go_wp2_with fail
   rw[HPO.out,HEQ.out]
   exact⟨rfl,HBA.out.trans (hz2.mono HBA.out.size)⟩
end
section
open Go.RowKit Go.Shelf
def flo(q:Rat):Int:=q.num.fdiv q.den
def flr(q:Rat):Int:=q.num.fmod q.den
theorem Zbz{n d e:Int}(he:0<e):(n*e).fdiv (d*e)=n.fdiv d:=by
 rw[Int.mul_comm n,Int.mul_comm d,Int.mul_fdiv_mul_of_pos _ _ he]
theorem ZdO(n d:Int)(hd:d≠0):n.fdiv d=flo (Rat.divInt n d):=by
 have h1:=Rat.num_divInt_den (Rat.divInt n d)
 rw[Rat.divInt_eq_divInt_iff (by have:=(Rat.divInt n d).den_nz;omega) hd] at h1
 unfold flo
 have he:(0:Int)<(Rat.divInt n d).den:=by have:=(Rat.divInt n d).den_pos;omega
 generalize (Rat.divInt n d).num=p at*
 generalize ((Rat.divInt n d).den:Int)=e at*
 rw[←Zbz (n:=n) (d:=d) he,←h1]
 rcases Int.lt_or_gt_of_ne hd with h|h
 ·have h2:=Zbz (n:=p) (d:=e) (e:= -d) (by omega)
  rw[←h2,Int.mul_neg,Int.mul_neg,Int.neg_fdiv_neg,Int.mul_comm e d]
 ·rw[Int.mul_comm d e,Zbz h]
theorem Zec(q:Rat):q.den*flo q+flr q=q.num:=by
 unfold flo flr
 exact Int.mul_fdiv_add_fmod _ _
theorem ZaJ(q:Rat):0≤flr q∧flr q<q.den:=by
 unfold flr
 have h:(0:Int)<q.den:=by have:=q.den_pos;omega
 exact⟨Int.fmod_nonneg_of_pos _ h,Int.fmod_lt_of_pos _ h⟩
def rnd(q:Rat):Int:=if(q.den:Int)<2*flr q∨(2*flr q=q.den∧(flo q).fmod 2≠0) then flo q+1 else flo q
theorem ZfW(q:Rat):(flo q).natAbs≤q.num.natAbs+1:=by
 have h1:=Zec q
 obtain⟨h2,h3⟩:=ZaJ q
 have h4:(1:Int)≤q.den:=by have:=q.den_pos;omega
 generalize flo q=f at*
 generalize flr q=r at*
 generalize (q.den:Int)=d at*
 generalize q.num=n at*
 rcases Int.le_total 0 f with h|h
 ·have:1*f≤d*f:=Int.mul_le_mul_of_nonneg_right h4 h
  omega
 ·have:d*f≤1*f:=Int.mul_le_mul_of_nonpos_right h4 h
  have:f<0→d*(f+1)≤1*(f+1):=fun h5=>Int.mul_le_mul_of_nonpos_right h4 (by omega)
  rw[Int.mul_add] at this
  omega
end
section
open Go.RowKit Go.Shelf
theorem ZbW(a:List UInt8)(w:World)(ha:a.length≤1000000000):
 Calls Tryz.prog 110 #[S a] w fun e w'=>e=.returned (S (canonL a))∧Below w.heap.size w w':=by
 have H:=hdz (ZeO a w ha)
 have HC:=hdz (show canonL a=if(digL a).2 then 45::(digL a).1 else(digL a).1 from rfl)
 have hl:=ZaH a
 have hl2:(digL a).1.length≤1000000000:=by omega
 clear hl
 generalize (digL a).1=t at*
 generalize (digL a).2=neg at*
 unfold S at*
 cases neg with
 |true=>
  have hsz:(⟨t.toArray⟩:ByteArray).size≤1000000000:=by rw[Zag];exact hl2
  go_enter Tryz.func110,Tryz.ntmps110
  go_wp2_with (go_at_call 153;refine H.out.mono ?_;rintro e w1 ⟨rfl,hb1⟩)
  go_ret
  rw[HC.out]
  exact⟨congrArg (fun b=>Ending.returned (.string b)) (ByteArray.mk_append_mk [45] t),hb1⟩
 |false=>
  go_enter Tryz.func110,Tryz.ntmps110
  go_wp2_with (go_at_call 153;refine H.out.mono ?_;rintro e w1 ⟨rfl,hb1⟩)
  go_ret
  rw[HC.out]
  exact⟨by simp,hb1⟩
end
section
open Go.RowKit Go.Shelf
theorem ZfX(f:Fr)(hf:f.Sz 40000):Gives 126 #[FrV f] (.tuple #[S (txtL f.rat.num),S (txtL f.rat.den)]):=by
 intro w hp
 have H:=hdz ((Kp.start hp).new w.heap.size rfl #[.string ⟨f.n.toArray⟩,.string ⟨f.d.toArray⟩] 26)
 have HPA:=hdz (fun W=>ZbH f W (by have:=hf.2;omega))
 have HRD:=hdz (fun W hp=>Zeb f.n f.dt W hp (by have:=hf.1;omega) (by have:=Fr.dt_len hf.2 (by omega);omega) (by rw[Fr.val_dt];exact f.dv_ne))
 rw[Fr.val_dt,show Rat.divInt (val f.n) f.dv=f.rat from rfl] at HRD
 generalize txtL f.rat.num=qn at*
 generalize txtL (f.rat.den:Int)=qd at*
 have x0:(w.alloc (.cells #[.string ⟨f.n.toArray⟩,.string ⟨f.d.toArray⟩] 26)).cell? ⟨w.heap.size,0,none⟩=some (.string ⟨f.n.toArray⟩):=H.out.c 0 0 rfl rfl
 have x1:(w.alloc (.cells #[.string ⟨f.n.toArray⟩,.string ⟨f.d.toArray⟩] 26)).cell? ⟨w.heap.size,1,none⟩=some (.string ⟨f.d.toArray⟩):=H.out.c 0 1 rfl rfl
 clear hf hp
 unfold FrV at*
 unfold S at*
 go_enter Tryz.func126,Tryz.ntmps126
 go_wp2_with fail
 generalize w.alloc _=W at*
 refine(HPA.out _).mono ?_
 rintro e w1 ⟨rfl,hb⟩
 unfold S
 replace H:=hdz (H.out.here hb)
 clear hb x0 x1
 go_wp2_with fail
 refine(HRD.out _ H.out.po).mono ?_
 rintro e w2 ⟨rfl,hb⟩
 unfold S
 replace H:=hdz (H.out.here hb)
 go_wp2_with fail
 first|go_ret2|skip
 exact⟨rfl,H.out.bl⟩
theorem ZfY(f:Fr)(hf:f.Sz 40000):Gives 113 #[FrV f] (S (txtL (flo f.rat))):=by
 intro w hp
 have H:=hdz ((Kp.start hp).new w.heap.size rfl #[.string ⟨f.n.toArray⟩,.string ⟨f.d.toArray⟩] 26)
 have HPA:=hdz (fun W=>ZbH f W (by have:=hf.2;omega))
 have hdv:val f.dt≠0:=by rw[Fr.val_dt];exact f.dv_ne
 have HDV:=hdz (fun W hp=>(Zdn f.n f.dt W hp (by have:=hf.1;omega) (by have:=Fr.dt_len hf.2 (by omega);omega)).mono fun e w' h=>ZbV hdv h)
 have HF:=hdz (show txtL ((val f.n).fdiv (val f.dt))=txtL (flo f.rat) by rw[Fr.val_dt,ZdO _ _ f.dv_ne];rfl)
 rw[HF.out] at HDV
 generalize txtL (flo f.rat)=res at*
 have x0:(w.alloc (.cells #[.string ⟨f.n.toArray⟩,.string ⟨f.d.toArray⟩] 26)).cell? ⟨w.heap.size,0,none⟩=some (.string ⟨f.n.toArray⟩):=H.out.c 0 0 rfl rfl
 have x1:(w.alloc (.cells #[.string ⟨f.n.toArray⟩,.string ⟨f.d.toArray⟩] 26)).cell? ⟨w.heap.size,1,none⟩=some (.string ⟨f.d.toArray⟩):=H.out.c 0 1 rfl rfl
 clear hf hp hdv HF
 unfold FrV at*
 unfold S at*
 go_enter Tryz.func113,Tryz.ntmps113
 go_wp2_with fail
 generalize w.alloc _=W at*
 refine(HPA.out _).mono ?_
 rintro e w1 ⟨rfl,hb⟩
 unfold S
 replace H:=hdz (H.out.here hb)
 clear hb x0 x1
 go_wp2_with fail
 refine(HDV.out _ H.out.po).mono ?_
 rintro e w2 ⟨rfl,hb⟩
 replace H:=hdz (H.out.here hb)
 go_wp2_with fail
 first|go_ret|skip
 exact⟨rfl,H.out.bl⟩
def nwL(f:Fr):Fr×Int:=if val f.d=0 then(Fr.zero,10) else(frOf (Rat.divInt (val f.n) (val f.d)),0)
theorem Zmp(f:Fr)(hf:f.Sz 50000):Gives 171 #[S f.n,S f.d] (.tuple #[FrV (nwL f).1,.int .i64 (nwL f).2]):=by
 intro w hp
 have H:=hdz ((Kp.start hp).new w.heap.size rfl #[.string ⟨#[]⟩,.string ⟨#[]⟩] 26)
 have HCM:=hdz (fun W=>Zar f.d [] W (by have:=hf.2;omega) (by simp))
 rw[ZaD,Int.sub_zero] at HCM
 have HMD:=hdz (fun W hp h0=>ZdN f.n f.d W hp hf.1 hf.2 h0)
 have HNL:=hdz (show nwL f=if val f.d=0 then(Fr.zero,10) else(frOf (Rat.divInt (val f.n) (val f.d)),0) from rfl)
 generalize nwL f=nl at*
 generalize frOf (Rat.divInt (val f.n) (val f.d))=res at*
 have HS:=hdz (ZhA (val f.d))
 clear hf hp
 unfold FrV at*
 unfold S at*
 go_enter Tryz.func171,Tryz.ntmps171
 go_wp2_with fail
 generalize w.alloc _=W at*
 refine(HCM.out _).mono ?_
 rintro e w1 ⟨rfl,hb⟩
 replace H:=hdz (H.out.here hb)
 have c0:w1.cell? ⟨w.heap.size,0,none⟩=some (.string ⟨#[]⟩):=H.out.c 0 0 rfl rfl
 have c1:w1.cell? ⟨w.heap.size,1,none⟩=some (.string ⟨#[]⟩):=H.out.c 0 1 rfl rfl
 have f0:=H.out.f 0 0 rfl;have f1:=H.out.f 0 1 rfl
 clear hb
 by_cases h0:val f.d=0
 ·have hs:(sgnI (val f.d)==0)=true:=by rw[HS.out];simp[h0]
  rw[if_pos h0] at HNL
  clear h0 HS HMD
  go_wp2_with fail
  refine bodyPost_ret (v:=.tuple #[.agg #[.string ⟨#[]⟩,.string ⟨#[]⟩],.int .i64 10]) (by simp[results,Tryz.results171,go_sem,c0,c1]) rfl ?_
  rw[HNL.out]
  exact⟨rfl,((H.out.set 0 0 rfl _).set 0 1 rfl _).bl⟩
 ·have hs:(sgnI (val f.d)==0)=false:=by rw[HS.out];simp[h0]
  rw[if_neg h0] at HNL
  have HMD2:=hdz (fun W hp=>HMD.out W hp h0)
  clear h0 HS HMD c0 c1 f0 f1
  go_wp2_with fail
  refine(HMD2.out _ H.out.po).mono ?_
  rintro e w2 ⟨rfl,hb⟩
  unfold FrV S
  replace H:=hdz (H.out.here hb)
  have c0:w2.cell? ⟨w.heap.size,0,none⟩=some (.string ⟨#[]⟩):=H.out.c 0 0 rfl rfl
  have c1:w2.cell? ⟨w.heap.size,1,none⟩=some (.string ⟨#[]⟩):=H.out.c 0 1 rfl rfl
  have f0:=H.out.f 0 0 rfl;have f1:=H.out.f 0 1 rfl
  go_wp2_with fail
  refine bodyPost_ret (v:=.tuple #[.agg #[.string ⟨res.n.toArray⟩,.string ⟨res.d.toArray⟩],.int .i64 0]) (by simp[results,Tryz.results171,go_sem,c0,c1]) rfl ?_
  rw[HNL.out]
  exact⟨rfl,((H.out.set 0 0 rfl _).set 0 1 rfl _).bl⟩
theorem Zaz(a:List UInt8)(ha:a.length≤1000000000):Gives 57 #[S a] (.int .i64 (if a=txtL (val a) then 0 else 1)):=by
 intro w hp
 have HC:=hdz (ZbW a w ha)
 rw[Zd1] at HC
 have HEQ:=hdz (show ∀t:List UInt8,(if a=t then(0:Int) else 1)=if(a==t)=true then 0 else 1 by intro t;by_cases h:a=t<;>simp[h])
 rw[HEQ.out]
 clear HEQ ha
 generalize txtL (val a)=t at*
 unfold S at*
 cases h:(a==t)
 all_goals
  go_enter Tryz.func57,Tryz.ntmps57
  go_wp2_with fail
  refine HC.out.mono ?_
  rintro e w1 ⟨rfl,hb⟩
  go_wp2_with fail
  first|go_ret|skip
  exact⟨rfl,hb⟩
theorem Zjc:val [50]=2:=by decide+kernel
theorem ZkJ(a:List UInt8)(ha:a.length≤100000):Gives 167 #[S a] (.bool (decide ((val a).fmod 2=0))):=by
 intro w hp
 have HDV:=hdz ((Zdn a [50] w hp.pow ha (by simp)).mono fun e w' h=>ZbV (by rw[Zjc];omega) h)
 rw[Zjc] at HDV
 have HE:=hdz (show(txtL ((val a).fmod 2)==[])=decide ((val a).fmod 2=0) by
  rw[Bool.eq_iff_iff]
  simp only[beq_iff_eq,decide_eq_true_eq]
  exact ZaQ)
 generalize txtL ((val a).fmod 2)=t at*
 generalize decide ((val a).fmod 2=0)=bb at*
 clear ha hp
 unfold S at*
 go_enter Tryz.func167,Tryz.ntmps167
 go_wp2_with fail
 refine HDV.out.mono ?_
 rintro e w1 ⟨rfl,hb⟩
 go_wp2_with fail
 first|go_ret|skip
 exact⟨Zaf ((show t.isEmpty=(t==[]) by cases t<;>rfl).trans HE.out),hb⟩
theorem ZhB(q:Rat):(flr q=0∧rnd q=flo q)∨(flr q≠0∧sgnI (flr q+flr q-q.den)= -1∧rnd q=flo q)∨(flr q≠0∧sgnI (flr q+flr q-q.den)=0∧rnd q=if(flo q).fmod 2=0 then flo q else flo q+1)∨(flr q≠0∧sgnI (flr q+flr q-q.den)=1∧rnd q=flo q+1):=by
 have hb:=ZaJ q
 unfold rnd sgnI
 by_cases h0:flr q=0
 ·exact .inl ⟨h0,by rw[if_neg];omega⟩
 ·rcases Int.lt_trichotomy (2*flr q) q.den with h|h|h
  ·exact .inr (.inl ⟨h0,by rw[if_pos (by omega)],by rw[if_neg];omega⟩)
  ·refine .inr (.inr (.inl ⟨h0,by rw[if_neg (by omega),if_neg (by omega)],?_⟩))
   by_cases he:(flo q).fmod 2=0
   ·rw[if_pos he,if_neg];omega
   ·rw[if_neg he,if_pos (.inr ⟨h,he⟩)]
  ·exact .inr (.inr (.inr ⟨h0,by rw[if_neg (by omega),if_pos (by omega)],by rw[if_pos (.inl h)]⟩))
theorem ZfZ(f:Fr)(hf:f.Sz 20000):Gives 124 #[FrV f,.int .i64 1] (.tuple #[S (txtL (rnd f.rat)),.int .i64 0]):=by
 intro w hp
 have H:=hdz ((Kp.start hp).new w.heap.size rfl #[.string ⟨f.n.toArray⟩,.string ⟨f.d.toArray⟩] 26)
 have HPA:=hdz (ZfX f (hf.more (by omega)))
 have hsz:f.rat.num.natAbs<10^20000∧f.rat.den<10^20000:=by
  obtain⟨K,hK⟩:∃K:Nat,K=20000:=⟨_,rfl⟩
  rw[←hK] at hf ⊢
  exact Zd7 hf (by omega)
 have hd0:(f.rat.den:Int)≠0:=by have:=f.rat.den_nz;omega
 have hbd:=ZaJ f.rat
 have hlo:=ZfW f.rat
 have HRC:=hdz (ZhB f.rat)
 generalize hq:f.rat=q at*
 obtain⟨K,hK⟩:∃K:Nat,K=20000:=⟨_,rfl⟩
 rw[←hK] at hsz
 have hp1:10^K+1<10^(K+1):=by have:1≤10^K:=Nat.pow_pos (by omega);rw[Nat.pow_succ];have:10^1≤10^K:=Nat.pow_le_pow_right (by omega) (by omega);omega
 have hp2:10^(K+1)+1<10^(K+2):=by have:10^1≤10^(K+1):=Nat.pow_le_pow_right (by omega) (by omega);rw[Nat.pow_succ 10 (K+1)];omega
 have l1:=Zab (n:=q.num) (L:=K) hsz.1
 have l2:=Zab (n:=(q.den:Int)) (L:=K) (by simpa using hsz.2)
 have l3:=Zab (n:=flo q) (L:=K+1) (by omega)
 have l4:=Zab (n:=flr q) (L:=K) (by omega)
 have l5:=Zab (n:=flr q+flr q) (L:=K+1) (by omega)
 clear hp1 hp2 hlo hsz
 have HDV:=hdz (fun W hp=>(Zdn (txtL q.num) (txtL q.den) W hp (by omega) (by omega)).mono fun e w' h=>ZbV (by rw[Zaa];exact hd0) h)
 rw[Zaa,Zaa,show q.num.fdiv (q.den:Int)=flo q from rfl,show q.num.fmod (q.den:Int)=flr q from rfl] at HDV
 have HCN:=hdz (fun W=>Zar (txtL q.num) [] W (by omega) (by simp))
 have HAR:=hdz (fun W hp=>ZbT (txtL (flr q)) (txtL (flr q)) W hp (by omega) (by omega))
 rw[Zaa] at HAR
 have HCM:=hdz (fun W=>Zar (txtL (flr q+flr q)) (txtL q.den) W (by omega) (by omega))
 rw[Zaa,Zaa] at HCM
 have HAD:=hdz (fun W hp=>ZbT (txtL (flo q)) [49] W hp (by omega) (by simp))
 rw[Zaa,Za7] at HAD
 have HEV:=hdz (ZkJ (txtL (flo q)) (by omega))
 rw[Zaa] at HEV
 have HNZ:=hdz (show flr q≠0→(txtL (flr q)==[])=false by
  intro h
  rw[Bool.eq_false_iff]
  intro h2
  exact h (ZaQ.1 (eq_of_beq h2)))
 clear hf hp hq hK l1 l2 l3 l4 l5 hbd hd0
 have x0:(w.alloc (.cells #[.string ⟨f.n.toArray⟩,.string ⟨f.d.toArray⟩] 26)).cell? ⟨w.heap.size,0,none⟩=some (.string ⟨f.n.toArray⟩):=H.out.c 0 0 rfl rfl
 have x1:(w.alloc (.cells #[.string ⟨f.n.toArray⟩,.string ⟨f.d.toArray⟩] 26)).cell? ⟨w.heap.size,1,none⟩=some (.string ⟨f.d.toArray⟩):=H.out.c 0 1 rfl rfl
 generalize sgnI (val (txtL q.num)-val [])=sn at*
 unfold FrV at*
 unfold S at*
 go_enter Tryz.func124,Tryz.ntmps124
 go_wp2_with fail
 generalize w.alloc _=W at*
 refine(HPA.out _ H.out.pw).mono ?_
 rintro e w1 ⟨rfl,hb⟩
 replace H:=hdz (H.out.here hb)
 clear hb x0 x1
 go_wp2_with fail
 refine(HDV.out _ H.out.po).mono ?_
 rintro e w2 ⟨rfl,hb⟩
 replace H:=hdz (H.out.here hb)
 clear hb
 rcases HRC.out with ⟨hr,hres⟩|⟨hr,hs,hres⟩|⟨hr,hs,hres⟩|⟨hr,hs,hres⟩
 ·rw[hr] at HAR HCM ⊢
  rw[show txtL (0:Int)=[] from rfl] at HAR ⊢
  rw[show(0:Int)+0=0 from rfl,show txtL (0:Int)=[] from rfl] at HAR
  rw[show(0:Int)+0=0 from rfl,show txtL (0:Int)=[] from rfl,show sgnI (0-(q.den:Int))= -1 by unfold sgnI;rw[if_pos];have:=q.den_pos;omega] at HCM
  have HRES:=hdz hres
  clear hr hres HRC HNZ HAD
  go_wp2_with fail
  refine(HCN.out _).mono ?_
  rintro e w3 ⟨rfl,hb⟩
  replace H:=hdz (H.out.here hb)
  clear hb
  go_wp2_with fail
  refine(HAR.out _ H.out.po).mono ?_
  rintro e w4 ⟨rfl,hb⟩
  replace H:=hdz (H.out.here hb)
  clear hb
  try unfold S
  go_wp2_with fail
  refine(HCM.out _).mono ?_
  rintro e w5 ⟨rfl,hb⟩
  replace H:=hdz (H.out.here hb)
  clear hb
  go_wp2_with fail
  first|go_ret2|skip
  rw[HRES.out]
  exact⟨rfl,H.out.bl⟩
 all_goals
  have hne:=HNZ.out hr
  rw[hs] at HCM
  have HRES:=hdz hres
  clear hr hs hres HRC HNZ
  go_wp2_with fail
  refine(HAD.out _ H.out.po).mono ?_
  rintro e w2b ⟨rfl,hb⟩
  replace H:=hdz (H.out.here hb)
  clear hb
  try unfold S
  go_wp2_with fail
  refine(HCN.out _).mono ?_
  rintro e w3 ⟨rfl,hb⟩
  replace H:=hdz (H.out.here hb)
  clear hb
  go_wp2_with fail
  refine(HAR.out _ H.out.po).mono ?_
  rintro e w4 ⟨rfl,hb⟩
  replace H:=hdz (H.out.here hb)
  clear hb
  try unfold S
  go_wp2_with fail
  refine(HCM.out _).mono ?_
  rintro e w5 ⟨rfl,hb⟩
  replace H:=hdz (H.out.here hb)
  clear hb
 ·go_wp2_with fail
  first|go_ret2|skip
  rw[HRES.out]
  exact⟨rfl,H.out.bl⟩
 ·by_cases he:(flo q).fmod 2=0
  ·rw[if_pos he] at HRES
   rw[show decide ((flo q).fmod 2=0)=true by simp[he]] at HEV
   clear he
   go_wp2_with fail
   refine(HEV.out _ H.out.pw).mono ?_
   rintro e w6 ⟨rfl,hb⟩
   replace H:=hdz (H.out.here hb)
   clear hb
   go_wp2_with fail
   first|go_ret2|skip
   rw[HRES.out]
   exact⟨rfl,H.out.bl⟩
  ·rw[if_neg he] at HRES
   rw[show decide ((flo q).fmod 2=0)=false by simp[he]] at HEV
   clear he
   go_wp2_with fail
   refine(HEV.out _ H.out.pw).mono ?_
   rintro e w6 ⟨rfl,hb⟩
   replace H:=hdz (H.out.here hb)
   clear hb
   go_wp2_with fail
   first|go_ret2|skip
   rw[HRES.out]
   exact⟨rfl,H.out.bl⟩
 ·go_wp2_with fail
  first|go_ret2|skip
  rw[HRES.out]
  exact⟨rfl,H.out.bl⟩
end
end Go.Proofs.YtpnncoinlopndaaGreatDoor
