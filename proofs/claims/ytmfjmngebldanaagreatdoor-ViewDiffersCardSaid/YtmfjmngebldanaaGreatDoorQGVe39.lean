/- Vfs, Vch, Vax. -/
import Derived.Test.YtmfjmngebldanaaGreatDoorQGVe36
import Derived.Test.YtmfjmngebldanaaGreatDoorQGVe34
set_option maxRecDepth 100000
set_option maxHeartbeats 8000000
namespace Go.Proofs.YtmfjmngebldanaaGreatDoor
open Go.Lib renaming hid→jq
open Go.RowKit Go.Shelf
section
attribute [local go_sem] Oper.semAt_some
attribute [local go_sem ↓] Ql Qz
def Jr(r:Int×Bool×Int)(w:World):Ending->World->Prop:=fun e w'=>e=.returned (.tuple #[.int .i64 r.1,.bool r.2.1,.int .i64 r.2.2])/\Below w.1.size w w'
theorem Zn6(w:World)(o1 o2 o3 o4 o5 o6 o7:Obj){W:World}(h:W=((((((w.alloc o1).alloc o2).alloc o3).alloc o4).alloc o5).alloc o6).alloc o7):
 W.1.size=w.1.size+7/\Below w.1.size w W/\W.heap[w.1.size]?=some o1/\W.heap[w.1.size+1]?=some o2/\W.heap[w.1.size+1+1]?=some o3/\W.heap[w.1.size+1+1+1]?=some o4/\W.heap[w.1.size+1+1+1+1]?=some o5/\
  W.heap[w.1.size+1+1+1+1+1]?=some o6/\W.heap[w.1.size+1+1+1+1+1+1]?=some o7:=by
 subst h;have up:∀{W:World} {b:Nat} {x o:Obj},W.heap[b]?=some x->(W.alloc o).heap[b]?=some x:=fun {W b x o} h=>(Below.heap_alloc W o b (Array.getElem?_eq_some_iff.1 h).1).trans h
 have e1:=World.alloc_heap_new w o1;have e2:=World.alloc_heap_new (w.alloc o1) o2;have e3:=World.alloc_heap_new ((w.alloc o1).alloc o2) o3;have e4:=World.alloc_heap_new (((w.alloc o1).alloc o2).alloc o3) o4;have e5:=World.alloc_heap_new ((((w.alloc o1).alloc o2).alloc o3).alloc o4) o5;have e6:=World.alloc_heap_new (((((w.alloc o1).alloc o2).alloc o3).alloc o4).alloc o5) o6;have e7:=World.alloc_heap_new ((((((w.alloc o1).alloc o2).alloc o3).alloc o4).alloc o5).alloc o6) o7;simp only[World.size_alloc] at e1 e2 e3 e4 e5 e6 e7;exact⟨by simp,((((((((Below.refl _ w).alloc (Nat.le_refl _) _).alloc (by simp) _).alloc (by simp;omega) _).alloc (by simp;omega) _).alloc (by simp;omega) _).alloc (by simp;omega) _).alloc (by simp;omega) _),up (up (up (up (up (up e1))))),up (up (up (up (up e2)))),up (up (up (up e3))),up (up (up e4)),up (up e5),up e6,e7⟩
def m1(xs ys:List Fx):Int×Bool:=(QW (xs.map (·.1)) (ys.map (·.1))).foldl XY (0,false)
structure FiI {xs:List Fx} (w:World) (bd bf sz:Nat) (p0:Int×Bool) (ds:List Nat) (R:World->Prop) (pre:List (InE xs)) (W:World):Prop where
 d:Box W bd 33 (.int .i64 ((Xu pre).foldl XY p0).1)
 f:Box W bf 4 (.bool ((Xu pre).foldl XY p0).2)
 r:R W
 bl:Below w.1.size w W
 le:sz<=W.1.size
 df:∀d∈ds,W.heap[d]?=some (.deferred (some []))
theorem FiI.own{xs:List Fx}{w:World}{bd bf sz:Nat}{p0:Int×Bool}{ds:List Nat}{R:World->Prop}(hsz:w.1.size<=sz)(hds:∀d∈ds,d<sz)(hR:OwnFrom sz (fun(_:Unit) W=>R W)):OwnFrom sz (fun pre W=>FiI (xs:=xs) w bd bf sz p0 ds R pre W):=by
 rintro pre W W' row ⟨h1,h2,h3,hb,hle,hd⟩ hg hr;have hbb:=Qn (B:=w.1.size) hg (by omega) hsz (fun r e=>(hr r e).1);exact⟨h1.turned hg hr,h2.turned hg hr,hR () _ _ _ h3 hg hr,hb.trans hbb,Nat.le_trans hle hg.size,fun d hm=>(hg.block d (Array.getElem?_eq_some_iff.1 (hd d hm)).1 (fun e=>by have:=(hr d e.symm).1;have:=hds d hm;omega)).trans (hd d hm)⟩
theorem Zbt(A A':Option Addr)(la ca lb cb:Nat)(xs ys:List Fx)(w:World)(hp:Env w)(hx:Fxs w w.1.size A la xs)(hy:Fxs w w.1.size A' lb ys)(hl:la<=100000)(hlb:lb<=100000):
 Calls Tryz.prog 14 #[.slice A la ca,.slice A' lb cb] w (Jr (Jd (xs.map (·.1)) (ys.map (·.1))) w):=by
 have HCA:=jq (fun W (hb:Below w.1.size w W)=>XA A la ca xs W (hp.here hb) (hx.here hb) (by omega));have HCB:=jq (fun W (hb:Below w.1.size w W)=>XA A' lb cb ys W (hp.here hb) (hy.here hb) (by omega));have hch:Jd (xs.map (·.1)) (ys.map (·.1))=if Xh (xs.map (·.1))≠0\/Xh (ys.map (·.1))≠0 then(0,false,1) else(((QW (xs.map (·.1)) (ys.map (·.1))++QW (ys.map (·.1)) (xs.map (·.1))).foldl XY (0,false)).1,((QW (xs.map (·.1)) (ys.map (·.1))++QW (ys.map (·.1)) (xs.map (·.1))).foldl XY (0,false)).2,0):=rfl
 have HX:=jq hx;have HYS:=jq hy;have HPW:=jq hp;clear hx hy hp;generalize Xh (xs.map (·.1))=za at*;generalize Xh (ys.map (·.1))=zb at*;generalize Jd (xs.map (·.1)) (ys.map (·.1))=res at*
 by_cases h0:za=0
 case neg=>
  rw[if_pos (.inl h0)] at hch;have HRS:=jq hch;have hz:(za !=0)=true:=by simp[h0]
  generalize hpo:Jr res w=post at*;have HPO:=jq hpo;clear hch h0 hpo;go_enter Tryz.func14,Tryz.ntmps14
  go_wp2_with fail
  refine(HCA.out w (Below.refl _ _)).mono ?_;rintro e w1 ⟨rfl,hb1⟩;go_wp2_with fail
  first|go_ret2|skip
  refine⟨rfl,_,results_tmp3 rfl _ _ _,?_⟩;rw[<-HPO.out,HRS.out];exact⟨rfl,hb1⟩
 subst h0
 by_cases h1:zb=0
 case neg=>
  rw[if_pos (.inr h1)] at hch;have HRS:=jq hch;have hz:(zb !=0)=true:=by simp[h1]
  generalize hpo:Jr res w=post at*;have HPO:=jq hpo;clear hch h1 hpo;go_enter Tryz.func14,Tryz.ntmps14
  go_wp2_with fail
  refine(HCA.out w (Below.refl _ _)).mono ?_;rintro e w1 ⟨rfl,hb1⟩;go_wp2_with fail
  refine(HCB.out _ hb1).mono ?_;rintro e w2 ⟨rfl,hb2⟩;go_wp2_with fail
  first|go_ret2|skip
  refine⟨rfl,_,results_tmp3 rfl _ _ _,?_⟩;rw[<-HPO.out,HRS.out];exact⟨rfl,hb1.trans (hb2.mono hb1.size)⟩
 subst h1;rw[if_neg (by simp)] at hch;have HRS:=jq hch;generalize hpo:Jr res w=post at*;have HPO:=jq hpo;clear hch hpo;refine(callsIn_wide (n:=6)).1 ?_;refine callsIn_of_wp_marks Tryz.func14 rfl trivial ?_ rfl;simp only[Tryz.ntmps14,List.size_toArray,List.length_cons,List.length_nil,Nat.reduceAdd,Nat.reduceSub,Array.replicate_succ,Array.replicate_zero,List.push_toArray,List.append_toArray,List.nil_append,List.cons_append]
 gi_wp2
 refine⟨trivial,(callsIn_wide.2 (HCA.out _ (Below.refl _ _))).mono ?_⟩;rintro e w1 ⟨rfl,hb1⟩
 gi_wp2
 refine⟨trivial,(callsIn_wide.2 (HCB.out _ hb1)).mono ?_⟩;rintro e w2 ⟨rfl,hb2⟩
 gi_wp2
 refine⟨trivial,(callsIn_wide.2 (Vf A A' la ca lb cb _)).mono ?_⟩;rintro e w3 ⟨rfl,rfl⟩
 gi_wp2
 refine⟨trivial,(callsIn_wide.2 (Vf A' A lb cb la ca _)).mono ?_⟩;rintro e w4 ⟨rfl,rfl⟩
 gi_wp2
 obtain⟨W3,hW3⟩:∃W3,W3=((((((w2.alloc (.cells #[.int .i64 0] 33)).alloc (.cells #[.bool false] 4)).alloc (.cells #[.slice A la ca] 22)).alloc (.cells #[.slice A' lb cb] 22)).alloc (.cells #[.slice A' lb cb] 22)).alloc (.cells #[.slice A la ca] 22)).alloc (.cells #[.func (.func 67) #[] #[.pointer (some ⟨w2.1.size+1+1+1,0,none⟩),.pointer (some ⟨w2.1.size+1+1,0,none⟩)],.func (.func 67) #[] #[.pointer (some ⟨w2.1.size+1+1+1+1+1,0,none⟩),.pointer (some ⟨w2.1.size+1+1+1+1,0,none⟩)]] 53):=⟨_,rfl⟩
 rw[<-hW3];obtain⟨hsz,hbl3,x1,x2,x3,x4,x5,x6,x7⟩:=Zn6 w2 _ _ _ _ _ _ _ hW3
 clear hW3;have hbw:=hb1.trans ((hb2.trans (hbl3.mono hb2.size)).mono hb1.size);have h2s:=(hb1.trans (hb2.mono hb1.size)).size;generalize hqe:w2.1.size+1+1+1+1+1+1=q at*;generalize ha2e:w2.1.size+1+1+1+1+1=a2 at*;generalize hb2e:w2.1.size+1+1+1+1=b2 at*;generalize hb1e:w2.1.size+1+1+1=b1 at*;generalize ha1e:w2.1.size+1+1=a1 at*;generalize hbfe:w2.1.size+1=bf at*;generalize hbde:w2.1.size=bd at*;have HBW:=jq hbw;have HSZ:=jq (show W3.1.size=bd+7/\w.1.size<=bd/\bf=bd+1/\a1=bd+2/\b1=bd+3/\b2=bd+4/\a2=bd+5/\q=bd+6 by omega);have HSEQ:=jq (JG 5 (by omega) (fun b=>b=bd\/b=bf) 9 w.1.size a1 b1 A A' la ca lb cb xs ys w W3 HPW.out hbw x3 x4 HX.out HYS.out (by omega) (by omega) (fun b h=>by omega) (fun b hb h=>by omega) (Nat.le_refl _));have HX1:=jq x1;have HX2:=jq x2;have HX5:=jq x5;have HX6:=jq x6;have HX7:=jq x7;have cq:=(show BlkB W3 q _ 53 from x7).cell 0 rfl;clear HCA HCB hb1 hb2 hbl3 hbw h2s hsz x1 x2 x3 x4 x5 x6 x7 hqe ha2e hb2e hb1e ha1e hbfe hbde;refine wpIn_loop_rounds 3 ?_;rw[roundsIn_succ]
 gi_wp2
 obtain⟨RR,hRR⟩:∃RR:World->Prop,RR=fun W=>Box W b2 22 (.slice A' lb cb)/\Box W a2 22 (.slice A la ca)/\BlkB W q #[.func (.func 67) #[] #[.pointer (some ⟨b1,0,none⟩),.pointer (some ⟨a1,0,none⟩)],.func (.func 67) #[] #[.pointer (some ⟨a2,0,none⟩),.pointer (some ⟨b2,0,none⟩)]] 53:=⟨_,rfl⟩
 have HRE:=jq hRR
 have HROWN:=jq (show ∀sz,bd+7<=sz->OwnFrom sz (fun(_:Unit) W=>RR W) from fun sz hsz=>by
  rw[hRR];rintro _ W W' row ⟨h1,h2,h3⟩ hg hr;exact⟨h1.turned hg hr,h2.turned hg hr,XR h3 hg hr⟩)
 have HRK:=jq (show ∀W u v,RR W->RR ((W.setCell ⟨bd,0,none⟩ u).setCell ⟨bf,0,none⟩ v) from fun W u v h=>by
  rw[hRR] at h ⊢;have:=HSZ.out
  obtain⟨h1,h2,h3⟩:=h
  exact⟨(h1.far (p:=⟨bd,0,none⟩) (show b2≠bd by omega) _).far (p:=⟨bf,0,none⟩) (show b2≠bf by omega) _,(h2.far (p:=⟨bd,0,none⟩) (show a2≠bd by omega) _).far (p:=⟨bf,0,none⟩) (show a2≠bf by omega) _,(h3.far (a:=⟨bd,0,none⟩) (show q≠bd by omega) _).far (a:=⟨bf,0,none⟩) (show q≠bf by omega) _⟩)
 have HR0:=jq (show RR W3 by rw[hRR];exact⟨HX5.out,HX6.out,HX7.out⟩);clear hRR
 refine Xa (α:=InE xs) (F:=Fence.wide) (n:=6) rfl (by omega) (gf:=67) (lb:=#[.pointer (some ⟨b1,0,none⟩),.pointer (some ⟨a1,0,none⟩)]) rfl trivial (enters_of Tryz.func67 (by kernel_rfl) rfl)
  HSEQ.out (fun b h=>by have:=HSZ.out;omega) (Below.refl _ _) (fun _=>rfl)
  (fun pre W=>FiI w bd bf W3.1.size (0,false) [] RR pre W) (fun _ _=>False) (FiI.own (xs:=xs) HBW.out.size (fun d h=>by cases h) (HROWN.out _ (by have:=HSZ.out;omega))) (fun _ _ _ _ h _ _=>h)
  ⟨HX1.out,HX2.out,HR0.out,HBW.out,Nat.le_refl _,fun d h=>by cases h⟩
  (fun pre x a' Wr=>∃Bx,FiI w bd bf W3.1.size (0,false) [] RR pre Wr/\W3.1.size<=Bx/\BlkB Wr Bx (Qb x.1.1 x.1.2) 43/\a'={tmps:=#[.slice A la ca,.slice A' lb cb,undef,undef,.int .i64 0,.bool false,.int .i64 0,.pointer (some ⟨bd,0,none⟩),.pointer (some ⟨bf,0,none⟩),undef,.func (.func 67) #[] #[.pointer (some ⟨b1,0,none⟩),.pointer (some ⟨a1,0,none⟩)],.pointer (some ⟨Bx,0,none⟩),.slice A la ca,.int .i64 0,.bool false,.bool false,.slice A' lb cb,.int .i64 0,.bool false,.bool false,.slice A la ca,.slice A' lb cb,.func (.func 67) #[] #[.pointer (some ⟨b1,0,none⟩),.pointer (some ⟨a1,0,none⟩)],.slice A' lb cb,.slice A la ca,.func (.func 67) #[] #[.pointer (some ⟨a2,0,none⟩),.pointer (some ⟨b2,0,none⟩)],.slice (some ⟨q,0,none⟩) 2 2,.int .i64 2,.int .i64 0,.bool true,.pointer (some ⟨q,0,none⟩),.func (.func 67) #[] #[.pointer (some ⟨b1,0,none⟩),.pointer (some ⟨a1,0,none⟩)],.func (.func 67) #[] #[.pointer (some ⟨b1,0,none⟩),.pointer (some ⟨a1,0,none⟩)],.agg (Qb x.1.1 x.1.2),undef,undef,undef,undef,undef,undef,undef,undef,undef,undef,undef,undef,undef],defers:=[]})
  (fun pre x a' _ Wr Wr' row ⟨Bx,hi,h1,h2,h3⟩ hg hr=>⟨Bx,(FiI.own (xs:=xs) HBW.out.size (fun d h=>by cases h) (HROWN.out _ (by have:=HSZ.out;omega))) _ _ _ _ hi hg hr,h1,XR h2 hg hr,h3⟩) ?assign ?body ?done ?stop
 case stop=>intro D pre W' _ h;exact h.elim
 case assign=>
  rintro lr pre x Wr K hI hK;obtain⟨⟨f,v⟩,hx⟩:=x
  have hst:=fun cs (hc:cs.size=21)=>QB Wr f v (cs:=cs) hc
  have HI:=jq hI;clear hI
  dsimp only
  gi_wp2
  exact hK _ _ (KpX.below ((Below.refl _ Wr).alloc (Nat.le_refl _) _)) ⟨Wr.1.size,OwnFrom.alloc (FiI.own (xs:=xs) HBW.out.size (fun d h=>by cases h) (HROWN.out _ (by have:=HSZ.out;omega))) _ HI.out,HI.out.le,heap_alloc_new Wr _,rfl⟩
 case body=>
  rintro lr pre x a' Wr ⟨Bx,⟨hbd,hbf,hrr,hbl,hle,hdf⟩,hBx,bX,rfl⟩ hlen;obtain⟨⟨f,v⟩,hx⟩:=x
  have q3:=bX.cell 3 (show(Qb f v)[3]?=some (.int .i64 f.day) from rfl);have HNX:=jq (show(Xu (pre++[⟨(f,v),hx⟩])).foldl XY (0,false)=XY ((Xu pre).foldl XY (0,false)) f by rw[XU,List.foldl_append];rfl);generalize (Xu pre).foldl XY (0,false)=pr at*;obtain⟨d0,f0⟩:=pr
  have cbd:=hbd.cell;have cbf:=hbf.cell;have fbd:=hbd.frozen;have fbf:=(hbf.far (p:=⟨bd,0,none⟩) (show bf≠bd by have:=HSZ.out;omega) (.int .i64 f.day)).frozen;have fbf1:=hbf.frozen;have cbf2:=(hbf.far (p:=⟨bd,0,none⟩) (show bf≠bd by have:=HSZ.out;omega) (.int .i64 f.day)).cell;have hnb:bf≠bd:=(by have:=HSZ.out;omega);have hnb2:bd≠bf:=fun e=>hnb e.symm
  have HBD:=jq hbd;have HBF:=jq hbf;have HRR:=jq hrr;have HBL:=jq hbl;have HLE:=jq hle;have HDF:=jq hdf;clear hbd hbf hrr hbl hle hdf bX hBx hlen
  cases f0 with
  |false=>
   rw[show XY (d0,false) f=(f.day,true) from rfl] at HNX
   gi_wp2
   exact⟨(KpX.set (E:=fun b=>b=bd\/b=bf) (p:=⟨bd,0,none⟩) (.inl rfl) _).trans (KpX.set (E:=fun b=>b=bd\/b=bf) (p:=⟨bf,0,none⟩) (.inr rfl) _),
    by rw[HNX.out];exact(HBD.out.set_ _).far (p:=⟨bf,0,none⟩) (show bd≠bf by have:=HSZ.out;omega) _,by rw[HNX.out];exact(HBF.out.far (p:=⟨bd,0,none⟩) (show bf≠bd by have:=HSZ.out;omega) _).set_ _,HRK.out _ _ _ HRR.out,
    (HBL.out.setCell (p:=⟨bd,0,none⟩) HSZ.out.2.1 _).setCell (p:=⟨bf,0,none⟩) (show w.1.size<=bf by have:=HSZ.out;omega) _,by have:=HLE.out;simpa using this,fun d hd=>by cases hd⟩
  |true=>
   by_cases hlt:f.day<d0
   ·rw[show XY (d0,true) f=(f.day,true) from if_pos (.inr hlt)] at HNX;have hd1:decide (f.day<d0)=true:=decide_eq_true hlt
    gi_wp2
    exact⟨(KpX.set (E:=fun b=>b=bd\/b=bf) (p:=⟨bd,0,none⟩) (.inl rfl) _).trans (KpX.set (E:=fun b=>b=bd\/b=bf) (p:=⟨bf,0,none⟩) (.inr rfl) _),
     by rw[HNX.out];exact(HBD.out.set_ _).far (p:=⟨bf,0,none⟩) (show bd≠bf by have:=HSZ.out;omega) _,by rw[HNX.out];exact(HBF.out.far (p:=⟨bd,0,none⟩) (show bf≠bd by have:=HSZ.out;omega) _).set_ _,HRK.out _ _ _ HRR.out,
     (HBL.out.setCell (p:=⟨bd,0,none⟩) HSZ.out.2.1 _).setCell (p:=⟨bf,0,none⟩) (show w.1.size<=bf by have:=HSZ.out;omega) _,by have:=HLE.out;simpa using this,fun d hd=>by cases hd⟩
   ·rw[show XY (d0,true) f=(d0,true) from if_neg (by simpa using hlt)] at HNX;have hd1:decide (f.day<d0)=false:=decide_eq_false hlt
    gi_wp2
    exact⟨KpX.refl _,by rw[HNX.out];exact HBD.out,by rw[HNX.out];exact HBF.out,HRR.out,HBL.out,HLE.out,HDF.out⟩
 case done=>
 rintro D zs W4 hD hS ⟨hbd,hbf,hrr,hbl,hle,_⟩ hK;rw[hS] at hbd hbf;have hrr2:=hrr;rw[HRE.out] at hrr2;obtain⟨hb2x,ha2x,hqx⟩:=hrr2
 have cq2:=hqx.cell 1 rfl;have HX12:=jq (show Box W4 bd 33 (.int .i64 (m1 xs ys).1) from hbd);have HX22:=jq (show Box W4 bf 4 (.bool (m1 xs ys).2) from hbf);have HR2:=jq hrr;have HBW2:=jq hbl;have HKD2:=jq hK;have HDL:=jq (Array.getElem?_eq_some_iff.1 hK).1;have HS4:=jq hle;have HD1:=jq (show w.1.size<=D by have:=HBW.out.size;omega);have HSEQ2:=jq (JG 5 (by omega) (fun b=>b=bd\/b=bf) 9 w.1.size b2 a2 A' A lb cb la ca ys xs w W4 HPW.out hbl hb2x ha2x HYS.out HX.out (by omega) (by omega) (fun b h=>by have:=HSZ.out;omega) (fun b hb h=>by have:=HSZ.out;omega) (Nat.le_refl _));clear hbd hbf hrr hb2x ha2x hqx hbl hK hS hD hle HSEQ cq
 gi_wp2
 rw[roundsIn_succ]
 gi_wp2
 refine Xa (α:=InE ys) (F:=Fence.wide) (n:=6) rfl (by omega) (gf:=67) (lb:=#[.pointer (some ⟨a2,0,none⟩),.pointer (some ⟨b2,0,none⟩)]) rfl trivial (enters_of Tryz.func67 (by kernel_rfl) rfl)
  HSEQ2.out (fun b h=>by have:=HSZ.out;have:=HS4.out;omega) (Below.refl _ _) (fun _=>rfl)
  (fun pre W=>FiI w bd bf W4.1.size (m1 xs ys) [D] RR pre W) (fun _ _=>False) (FiI.own (xs:=ys) HBW2.out.size (fun d h=>by rw[List.mem_singleton.1 h];exact HDL.out) (HROWN.out _ (by have:=HSZ.out;have:=HS4.out;omega))) (fun _ _ _ _ h _ _=>h)
  ⟨HX12.out,HX22.out,HR2.out,HBW2.out,Nat.le_refl _,fun d h=>by rw[List.mem_singleton.1 h];exact HKD2.out⟩
  (fun pre x a' Wr=>∃Bx,FiI w bd bf W4.1.size (m1 xs ys) [D] RR pre Wr/\W4.1.size<=Bx/\BlkB Wr Bx (Qb x.1.1 x.1.2) 43/\a'={tmps:=#[.slice A la ca,.slice A' lb cb,undef,undef,.int .i64 0,.bool false,.int .i64 0,.pointer (some ⟨bd,0,none⟩),.pointer (some ⟨bf,0,none⟩),undef,.func (.func 67) #[] #[.pointer (some ⟨a2,0,none⟩),.pointer (some ⟨b2,0,none⟩)],.pointer (some ⟨Bx,0,none⟩),.slice A la ca,.int .i64 0,.bool false,.bool false,.slice A' lb cb,.int .i64 0,.bool false,.bool false,.slice A la ca,.slice A' lb cb,.func (.func 67) #[] #[.pointer (some ⟨b1,0,none⟩),.pointer (some ⟨a1,0,none⟩)],.slice A' lb cb,.slice A la ca,.func (.func 67) #[] #[.pointer (some ⟨a2,0,none⟩),.pointer (some ⟨b2,0,none⟩)],.slice (some ⟨q,0,none⟩) 2 2,.int .i64 2,.int .i64 1,.bool true,.pointer (some ⟨q,1,none⟩),.func (.func 67) #[] #[.pointer (some ⟨a2,0,none⟩),.pointer (some ⟨b2,0,none⟩)],.func (.func 67) #[] #[.pointer (some ⟨a2,0,none⟩),.pointer (some ⟨b2,0,none⟩)],.agg (Qb x.1.1 x.1.2),undef,undef,undef,undef,undef,undef,undef,undef,undef,undef,.int .i64 1,undef,undef],defers:=[]})
  (fun pre x a' _ Wr Wr' row ⟨Bx,hi,h1,h2,h3⟩ hg hr=>⟨Bx,(FiI.own (xs:=ys) HBW2.out.size (fun d h=>by rw[List.mem_singleton.1 h];exact HDL.out) (HROWN.out _ (by have:=HSZ.out;have:=HS4.out;omega))) _ _ _ _ hi hg hr,h1,XR h2 hg hr,h3⟩) ?assign ?body ?done ?stop
 case stop=>intro D pre W' _ h;exact h.elim
 case assign=>
  rintro lr pre x Wr K hI hK;obtain⟨⟨f,v⟩,hx⟩:=x
  have hst:=fun cs (hc:cs.size=21)=>QB Wr f v (cs:=cs) hc
  have HI:=jq hI;clear hI
  dsimp only
  gi_wp2
  exact hK _ _ (KpX.below ((Below.refl _ Wr).alloc (Nat.le_refl _) _)) ⟨Wr.1.size,OwnFrom.alloc (FiI.own (xs:=ys) HBW2.out.size (fun d h=>by rw[List.mem_singleton.1 h];exact HDL.out) (HROWN.out _ (by have:=HSZ.out;have:=HS4.out;omega))) _ HI.out,HI.out.le,heap_alloc_new Wr _,rfl⟩
 case body=>
  rintro lr pre x a' Wr ⟨Bx,⟨hbd,hbf,hrr,hbl,hle,hdf⟩,hBx,bX,rfl⟩ hlen;obtain⟨⟨f,v⟩,hx⟩:=x
  have q3:=bX.cell 3 (show(Qb f v)[3]?=some (.int .i64 f.day) from rfl);have HNX:=jq (show(Xu (pre++[⟨(f,v),hx⟩])).foldl XY (m1 xs ys)=XY ((Xu pre).foldl XY (m1 xs ys)) f by rw[XU,List.foldl_append];rfl);generalize (Xu pre).foldl XY (m1 xs ys)=pr at*;obtain⟨d0,f0⟩:=pr
  have cbd:=hbd.cell;have cbf:=hbf.cell;have fbd:=hbd.frozen;have fbf:=(hbf.far (p:=⟨bd,0,none⟩) (show bf≠bd by have:=HSZ.out;omega) (.int .i64 f.day)).frozen;have fbf1:=hbf.frozen;have cbf2:=(hbf.far (p:=⟨bd,0,none⟩) (show bf≠bd by have:=HSZ.out;omega) (.int .i64 f.day)).cell;have hnb:bf≠bd:=(by have:=HSZ.out;omega);have hnb2:bd≠bf:=fun e=>hnb e.symm
  have HBD:=jq hbd;have HBF:=jq hbf;have HRR:=jq hrr;have HBL:=jq hbl;have HLE:=jq hle;have HDF:=jq hdf;clear hbd hbf hrr hbl hle hdf bX hBx hlen
  cases f0 with
  |false=>
   rw[show XY (d0,false) f=(f.day,true) from rfl] at HNX
   gi_wp2
   exact⟨(KpX.set (E:=fun b=>b=bd\/b=bf) (p:=⟨bd,0,none⟩) (.inl rfl) _).trans (KpX.set (E:=fun b=>b=bd\/b=bf) (p:=⟨bf,0,none⟩) (.inr rfl) _),
    by rw[HNX.out];exact(HBD.out.set_ _).far (p:=⟨bf,0,none⟩) (show bd≠bf by have:=HSZ.out;omega) _,by rw[HNX.out];exact(HBF.out.far (p:=⟨bd,0,none⟩) (show bf≠bd by have:=HSZ.out;omega) _).set_ _,HRK.out _ _ _ HRR.out,
    (HBL.out.setCell (p:=⟨bd,0,none⟩) HSZ.out.2.1 _).setCell (p:=⟨bf,0,none⟩) (show w.1.size<=bf by have:=HSZ.out;omega) _,by have:=HLE.out;simpa using this,fun d hd=>(Below.heap_setCell _ ⟨bf,0,none⟩ _ d (fun e=>by
    have h1:=HDF.out d hd;have h2:=HBF.out;unfold Box at h2;dsimp only at e;rw[<-e,h1] at h2;cases h2)).trans ((Below.heap_setCell _ ⟨bd,0,none⟩ _ d (fun e=>by
    have h1:=HDF.out d hd;have h2:=HBD.out;unfold Box at h2;dsimp only at e;rw[<-e,h1] at h2;cases h2)).trans (HDF.out d hd))⟩
  |true=>
   by_cases hlt:f.day<d0
   ·rw[show XY (d0,true) f=(f.day,true) from if_pos (.inr hlt)] at HNX;have hd1:decide (f.day<d0)=true:=decide_eq_true hlt
    gi_wp2
    exact⟨(KpX.set (E:=fun b=>b=bd\/b=bf) (p:=⟨bd,0,none⟩) (.inl rfl) _).trans (KpX.set (E:=fun b=>b=bd\/b=bf) (p:=⟨bf,0,none⟩) (.inr rfl) _),
     by rw[HNX.out];exact(HBD.out.set_ _).far (p:=⟨bf,0,none⟩) (show bd≠bf by have:=HSZ.out;omega) _,by rw[HNX.out];exact(HBF.out.far (p:=⟨bd,0,none⟩) (show bf≠bd by have:=HSZ.out;omega) _).set_ _,HRK.out _ _ _ HRR.out,
     (HBL.out.setCell (p:=⟨bd,0,none⟩) HSZ.out.2.1 _).setCell (p:=⟨bf,0,none⟩) (show w.1.size<=bf by have:=HSZ.out;omega) _,by have:=HLE.out;simpa using this,fun d hd=>(Below.heap_setCell _ ⟨bf,0,none⟩ _ d (fun e=>by
    have h1:=HDF.out d hd;have h2:=HBF.out;unfold Box at h2;dsimp only at e;rw[<-e,h1] at h2;cases h2)).trans ((Below.heap_setCell _ ⟨bd,0,none⟩ _ d (fun e=>by
    have h1:=HDF.out d hd;have h2:=HBD.out;unfold Box at h2;dsimp only at e;rw[<-e,h1] at h2;cases h2)).trans (HDF.out d hd))⟩
   ·rw[show XY (d0,true) f=(d0,true) from if_neg (by simpa using hlt)] at HNX;have hd1:decide (f.day<d0)=false:=decide_eq_false hlt
    gi_wp2
    exact⟨KpX.refl _,by rw[HNX.out];exact HBD.out,by rw[HNX.out];exact HBF.out,HRR.out,HBL.out,HLE.out,HDF.out⟩
 case done=>
 rintro D2 zs2 W' hD2 hS2 ⟨hbd,hbf,hrr,hbl,hle,hdf⟩ hK2;unfold m1 at hbd hbf;rw[hS2,<-List.foldl_append] at hbd hbf;have HKD:=jq (hdf D (List.mem_singleton.2 rfl));have HKD3:=jq hK2;have HRS2:=HRS;generalize (QW (xs.map (·.1)) (ys.map (·.1))++QW (ys.map (·.1)) (xs.map (·.1))).foldl XY (0,false)=pr at*;have cbd:=hbd.cell;have cbf:=hbf.cell;have HBL:=jq hbl;have HDD:=jq hD2;have HLS:=jq hle;clear hbd hbf hrr hbl hle hdf hK2 hS2 hD2 cq2
 gi_wp2
 rw[roundsIn_succ]
 gi_wp2
 refine wpIn_wide.2 ?_
 go_quiet (fail)
 rename_i nq
 gi_wp2
 have hk2:(W'.drewN nq).heap[D2]?=some (Obj.deferred (some [])):=HKD3.out;have hk1:(W'.drewN nq).heap[D]?=some (Obj.deferred (some [])):=HKD.out;have hDD:=HDD.out;have hs3:=HBW2.out.size;have hdl:=HDL.out;have hD1:=HD1.out;have hbl8:=JI HBL.out nq;have hput:=grownBy_putObj' (W'.drewN nq) D2 (.deferred none);have hk3:((W'.drewN nq).putObj D2 (.deferred none)).heap[D]?=some (Obj.deferred (some [])):=(World.putObj_heap_other (by omega)).trans hk1;have hput2:=grownBy_putObj' ((W'.drewN nq).putObj D2 (.deferred none)) D (.deferred none);have hbl9:=hbl8.trans (Qn hput hbl8.size (Nat.le_refl _) (fun r e=>by cases e;omega));have hbl10:=hbl9.trans (Qn hput2 hbl9.size (Nat.le_refl _) (fun r e=>by cases e;omega));refine⟨by simp,.inl ⟨_,_,rfl,run_takeDeferred hk2,?_⟩⟩;refine⟨by simp,.inl ⟨_,_,rfl,run_takeDeferred hk3,?_⟩⟩;refine⟨_,results_tmp3 rfl _ _ _,?_⟩;rw[<-HPO.out,HRS.out];exact⟨rfl,hbl10⟩
end
section
attribute [local go_sem] Oper.semAt_some
attribute [local go_sem ↓] Ql Qz
theorem ZbR(s:List UInt8):∀u∈S1 s,u.oneCell'=true:=by
 intro u hu;simp only[S1,S,List.mem_singleton] at hu;subst hu;rfl
theorem Js:VP Tryz.prog 30 9 1 16:=Zal Tryz.underlying30 (by kernel_rfl) (by decide) (by decide)
theorem Zen{W:World}{q:Nat}{s:List UInt8}{T:TypeId}(h:BlkB W q #[.string ⟨s.toArray⟩] T):Sl S1 1 W W.1.size (some ⟨q,0,none⟩) 1 [s]:=by
 refine⟨rfl,fun _=>⟨q,0,rfl,h.lt,fun j z hj k u hk=> ?_⟩⟩
 cases j with
 |zero=>
  simp only[List.getElem?_cons_zero,Option.some.injEq] at hj;subst hj;rw[Nat.zero_mul,Nat.zero_add];exact h.cell k (by simpa[S1,S] using hk)
 |succ j=>simp at hj
def KsPost(res:List (List UInt8))(err:Int)(w:World):Ending->World->Prop:=fun e w'=>∃A c,e=.returned (.tuple #[.slice A res.length c,.int .i64 err])/\Own S1 1 9 w' w.1.size (.slice A res.length c) res/\Below w.1.size w w'
theorem KsPost.empty{w w':World}{e2:Int}(hb:Below w.1.size w w'):KsPost [] e2 w (.returned (.tuple #[.slice none 0 0,.int .i64 e2])) w':=⟨none,0,rfl,Own.nil,hb⟩
def k1(xs ys:List Fx):List (List UInt8):=(QW (xs.map (·.1)) (ys.map (·.1))).map (·.key)
structure ChI {xs:List Fx} (w:World) (p0 sz:Nat) (out0:List (List UInt8)) (ds:List Nat) (pre:List (InE xs)) (W:World):Prop where
 ex:∃(A:Option Addr) (c:Nat) (ks:List (List UInt8)),Box W p0 30 (.slice A ks.length c)/\Own S1 1 9 W w.1.size (.slice A ks.length c) ks/\ks=out0++(Xu pre).map (·.key)
 bl:Below w.1.size w W
 le:sz<=W.1.size
 df:∀d∈ds,W.heap[d]?=some (.deferred (some []))
theorem ChI.own{xs:List Fx}{w:World}{p0 sz:Nat}{out0:List (List UInt8)}{ds:List Nat}(hsz:w.1.size<=sz)(hds:∀d∈ds,d<sz):OwnFrom sz (fun pre W=>ChI (xs:=xs) w p0 sz out0 ds pre W):=by
 rintro pre W W' row ⟨⟨A,c,ks,h1,h2,h3⟩,hb,hle,hd⟩ hg hr;have hbb:=Qn (B:=w.1.size) hg (by omega) hsz (fun r e=>(hr r e).1);exact⟨⟨A,c,ks,h1.turned hg hr,h2.turned hg hr,h3⟩,hb.trans hbb,Nat.le_trans hle hg.size,fun d hm=>(hg.block d (Array.getElem?_eq_some_iff.1 (hd d hm)).1 (fun e=>by have:=(hr d e.symm).1;have:=hds d hm;omega)).trans (hd d hm)⟩
theorem ZdI(A A':Option Addr)(la ca lb cb:Nat)(xs ys:List Fx)(w:World)(hp:Env w)(hx:Fxs w w.1.size A la xs)(hy:Fxs w w.1.size A' lb ys)(hl:la<=100000)(hlb:lb<=100000):
 Calls Tryz.prog 12 #[.slice A la ca,.slice A' lb cb] w (KsPost (ZaZ (xs.map (·.1)) (ys.map (·.1))).1 (ZaZ (xs.map (·.1)) (ys.map (·.1))).2 w):=by
 have HCA:=jq (fun W (hb:Below w.1.size w W)=>XA A la ca xs W (hp.here hb) (hx.here hb) (by omega));have HCB:=jq (fun W (hb:Below w.1.size w W)=>XA A' lb cb ys W (hp.here hb) (hy.here hb) (by omega));have hch:ZaZ (xs.map (·.1)) (ys.map (·.1))=if Xh (xs.map (·.1))≠0\/Xh (ys.map (·.1))≠0 then([],1) else(Jc ((QW (xs.map (·.1)) (ys.map (·.1))++QW (ys.map (·.1)) (xs.map (·.1))).map (·.key)),0):=rfl
 have HX:=jq hx;have HYS:=jq hy;have HPW:=jq hp;have HLX:=jq (show xs.length<=100000 by rw[<-hx.len];exact hl);have HLY:=jq (show ys.length<=100000 by rw[<-hy.len];exact hlb)
 have HLM:=jq (show(k1 xs ys).length<=100000 by
  unfold k1;rw[List.length_map];have h:=List.length_filter_le (fun f:Fct=>decide (QX (ys.map (·.1)) f.key≠some f)) (xs.map (·.1));rw[List.length_map] at h;have:=HLX.out
  unfold QW;omega)
 clear hx hy hp;generalize Xh (xs.map (·.1))=za at*;generalize Xh (ys.map (·.1))=zb at*;generalize ZaZ (xs.map (·.1)) (ys.map (·.1))=res at*
 by_cases h0:za=0
 case neg=>
  rw[if_pos (.inl h0)] at hch;have HRS:=jq hch;have hz:(za !=0)=true:=by simp[h0]
  generalize hpo:KsPost res.1 res.2 w=post at*;have HPO:=jq hpo;clear hch h0 hpo;go_enter Tryz.func12,Tryz.ntmps12
  go_wp2_with fail
  refine(HCA.out w (Below.refl _ _)).mono ?_;rintro e w1 ⟨rfl,hb1⟩;go_wp2_with fail
  first|go_ret2|skip
  rw[<-HPO.out,HRS.out];exact KsPost.empty hb1
 subst h0
 by_cases h1:zb=0
 case neg=>
  rw[if_pos (.inr h1)] at hch;have HRS:=jq hch;have hz:(zb !=0)=true:=by simp[h1]
  generalize hpo:KsPost res.1 res.2 w=post at*;have HPO:=jq hpo;clear hch h1 hpo;go_enter Tryz.func12,Tryz.ntmps12
  go_wp2_with fail
  refine(HCA.out w (Below.refl _ _)).mono ?_;rintro e w1 ⟨rfl,hb1⟩;go_wp2_with fail
  refine(HCB.out _ hb1).mono ?_;rintro e w2 ⟨rfl,hb2⟩;go_wp2_with fail
  first|go_ret2|skip
  rw[<-HPO.out,HRS.out];exact KsPost.empty (hb1.trans (hb2.mono hb1.size))
 subst h1;rw[if_neg (by simp)] at hch;subst hch;generalize hpo:KsPost _ _ w=post;have HPO:=jq (show post=KsPost (Jc ((QW (xs.map (·.1)) (ys.map (·.1))++QW (ys.map (·.1)) (xs.map (·.1))).map (·.key))) 0 w from hpo.symm);clear hpo;refine(callsIn_wide (n:=6)).1 ?_;refine callsIn_of_wp_marks Tryz.func12 rfl trivial ?_ rfl;simp only[Tryz.ntmps12,List.size_toArray,List.length_cons,List.length_nil,Nat.reduceAdd,Nat.reduceSub,Array.replicate_succ,Array.replicate_zero,List.push_toArray,List.append_toArray,List.nil_append,List.cons_append]
 gi_wp2
 refine⟨trivial,(callsIn_wide.2 (HCA.out _ (Below.refl _ _))).mono ?_⟩;rintro e w1 ⟨rfl,hb1⟩
 gi_wp2
 refine⟨trivial,(callsIn_wide.2 (HCB.out _ hb1)).mono ?_⟩;rintro e w2 ⟨rfl,hb2⟩
 gi_wp2
 refine⟨trivial,(callsIn_wide.2 (Vf A A' la ca lb cb _)).mono ?_⟩;rintro e w3 ⟨rfl,rfl⟩
 gi_wp2
 have hB:=hb1.trans (hb2.mono hb1.size);have hB1:=((((Below.refl w2.1.size w2).alloc (Nat.le_refl _) (.cells #[.slice none 0 0] 30)).alloc (by simp) (.cells #[.slice A la ca] 22)).alloc (by simp;omega) (.cells #[.slice A' lb cb] 22));have hsz3:(((w2.alloc (.cells #[.slice none 0 0] 30)).alloc (.cells #[.slice A la ca] 22)).alloc (.cells #[.slice A' lb cb] 22)).heap.size=w2.1.size+3:=by simp
 have hbx0:=((Box.new w2 30 (.slice none 0 0)).alloc (.cells #[.slice A la ca] 22)).alloc (.cells #[.slice A' lb cb] 22);have hba:=(Box.new (w2.alloc (.cells #[.slice none 0 0] 30)) 22 (.slice A la ca)).alloc (.cells #[.slice A' lb cb] 22);have hbb:=Box.new ((w2.alloc (.cells #[.slice none 0 0] 30)).alloc (.cells #[.slice A la ca] 22)) 22 (.slice A' lb cb);simp only[World.size_alloc] at hba hbb;have hbw:=hB.trans (hB1.mono hB.size);have h2s:=hB.size;generalize ((w2.alloc (.cells #[.slice none 0 0] 30)).alloc (.cells #[.slice A la ca] 22)).alloc (.cells #[.slice A' lb cb] 22)=W3 at*;generalize hbbe:w2.1.size+1+1=bb at*;generalize hbae:w2.1.size+1=ba at*;generalize hp0e:w2.1.size=p0 at*;have HBW:=jq hbw;have HBX0:=jq hbx0;have HSZ:=jq (show W3.1.size=p0+3/\w.1.size<=p0 from⟨hsz3,h2s⟩);have HSEQ:=jq (JG 5 (by omega) (fun b=>b=p0) 9 w.1.size ba bb A A' la ca lb cb xs ys w W3 HPW.out hbw hba hbb HX.out HYS.out (by omega) (by omega) (fun b h=>by omega) (fun b hb h=>by omega) (Nat.le_refl _));clear HCA HCB hb1 hb2 hB hB1 hsz3 hbx0 hba hbb hbw h2s
 refine Xa (α:=InE xs) (F:=Fence.wide) (n:=6) rfl (by omega) (gf:=67) (lb:=#[.pointer (some ⟨bb,0,none⟩),.pointer (some ⟨ba,0,none⟩)]) rfl trivial (enters_of Tryz.func67 (by kernel_rfl) rfl)
  HSEQ.out (fun b h=>by have:=HSZ.out;omega) (Below.refl _ _) (fun _=>rfl)
  (fun pre W=>ChI w p0 W3.1.size [] [] pre W) (fun _ _=>False) (ChI.own HBW.out.size (fun d h=>by cases h)) (fun _ _ _ _ h _ _=>h)
  ⟨⟨none,0,[],HBX0.out,Own.nil,rfl⟩,HBW.out,Nat.le_refl _,fun d h=>by cases h⟩
  (fun pre x a' Wr=>∃Bx,ChI w p0 W3.1.size [] [] pre Wr/\W3.1.size<=Bx/\BlkB Wr Bx (Qb x.1.1 x.1.2) 43/\a'={tmps:=#[.slice A la ca,.slice A' lb cb,undef,undef,.slice none 0 0,.int .i64 0,.pointer (some ⟨p0,0,none⟩),.pointer (some ⟨Bx,0,none⟩),undef,.slice A la ca,.int .i64 0,.bool false,.bool false,.slice A' lb cb,.int .i64 0,.bool false,.bool false,.slice A la ca,.slice A' lb cb,.func (.func 67) #[] #[.pointer (some ⟨bb,0,none⟩),.pointer (some ⟨ba,0,none⟩)],.agg (Qb x.1.1 x.1.2),undef,undef,undef,undef,undef,undef,undef,undef,undef,undef,undef,undef,undef,undef,undef,undef,undef,undef],defers:=[]})
  (fun pre x a' _ Wr Wr' row ⟨Bx,hi,h1,h2,h3⟩ hg hr=>⟨Bx,ChI.own HBW.out.size (fun d h=>by cases h) _ _ _ _ hi hg hr,h1,XR h2 hg hr,h3⟩) ?assign ?body ?done ?stop
 case stop=>intro D pre W' _ h;exact h.elim
 case assign=>
  rintro lr pre x Wr K hI hK;obtain⟨⟨f,v⟩,hx⟩:=x
  have hst:=fun cs (hc:cs.size=21)=>QB Wr f v (cs:=cs) hc
  have HI:=jq hI;clear hI
  dsimp only
  gi_wp2
  exact hK _ _ (KpX.below ((Below.refl _ Wr).alloc (Nat.le_refl _) _)) ⟨Wr.1.size,OwnFrom.alloc (ChI.own HBW.out.size (fun d h=>by cases h)) _ HI.out,HI.out.le,heap_alloc_new Wr _,rfl⟩
 case body=>
  rintro lr pre x a' Wr ⟨Bx,⟨⟨A1,c1,ks,hbx,hown,hks⟩,hbl,hle,hdf⟩,hBx,bX,rfl⟩ hlen;obtain⟨⟨f,v⟩,hx⟩:=x
  have cb0:=hbx.cell;have fb0:=hbx.frozen;have q0:=bX.cell 0 (show(Qb f v)[0]?=some (.string ⟨f.key.toArray⟩) from rfl);have HOA:=jq (hown.alloc (.cells #[.string ⟨f.key.toArray⟩] 9));have HBX4:=jq (hbx.alloc (.cells #[.string ⟨f.key.toArray⟩] 9));have HSL:=jq (Zen (heap_alloc_new Wr (.cells #[.string ⟨f.key.toArray⟩] 9)));have HBL4:=jq (hbl.alloc hbl.size (.cells #[.string ⟨f.key.toArray⟩] 9));have HKX4:=jq (show KpX (fun b=>b=p0) 9 w.1.size Wr (Wr.alloc (.cells #[.string ⟨f.key.toArray⟩] 9)) from KpX.below ((Below.refl _ _).alloc (Nat.le_refl _) _));have HKS:=jq hks;have HLE:=jq hle;have HDF:=jq hdf
  have HLL:=jq (show ks.length+1<=100000000000 by
   have h1:=congrArg List.length hks;have h3:(Xu pre).length=pre.length:=by unfold Xu;rw[List.length_map]
   have h4:=HLX.out;have h5:=HLY.out;have h6:=HLM.out;simp only[List.length_append,List.length_map,List.length_nil,h3] at h1;omega)
  have hne2:9≠30:=by decide
  clear hbx hown hks hbl hle hdf bX hBx hlen
  gi_wp2_with (gi_at_builtin;refine VF _ rfl (.tmp 21) (.tmp 24) _ rfl Js XP ZbR (base:=w.1.size) (.slice A1 ks.length c1) ks rfl HOA.out _ _ 1 1 [f.key] rfl HSL.out HLL.out HBL4.out.size ?_;intro A2 c2 w2 ho2 hg2 hat2;have hb2:=HBX4.out.grown hg2 (HOA.out.neBox HBX4.out hne2);have cb2:=hb2.cell;have fb2:=hb2.frozen)
  have hown2:∀g,(Value.slice A1 ks.length c1).ownBlock=some g->w.1.size<=g/\∃cs fz,(Wr.alloc (.cells #[.string ⟨f.key.toArray⟩] 9)).heap[g]?=some (.cells cs 9 fz):=fun g e=>by
   rcases HOA.out.2 with ⟨h0,_⟩|⟨g',cap,cur,h0,hb',hgc,_⟩
   ·rw[h0] at e;cases e
   ·rw[h0] at e
    cases e
    exact⟨hb',_,_,hgc⟩
  refine⟨?_,⟨A2,c2,ks++[f.key],?_,?_,?_⟩,?_,?_,?_⟩
  ·exact HKX4.out.trans ((KpX.grown hg2 (fun r e=>.inr (hown2 r e))).trans (KpX.set (E:=fun b=>b=p0) (p:=⟨p0,0,none⟩) rfl _))
  ·rw[List.length_append];exact hb2.set_ _
  ·rw[List.length_append];exact ho2.far (fun h=>ho2.neBox hb2 hne2 h.symm) _
  ·rw[HKS.out,XU,List.map_append,List.append_assoc];rfl
  ·exact(HBL4.out.trans (Qn hg2 HBL4.out.size (Nat.le_refl _) (fun r e=>(hown2 r e).1))).setCell (p:=⟨p0,0,none⟩) HSZ.out.2 _
  ·have h1:=hg2.size;have h2:=HLE.out;simp at *; omega
  ·intro d h;cases h
 case done=>
 rintro D zs W' hD hS ⟨⟨A1,c1,ks,hbx,hown,hks⟩,hbl,hle,_⟩ hK;have HKS1:=jq (show ks=k1 xs ys by rw[hks,hS];rfl)
 have HEX2:=jq (show ∃(A0:Option Addr) (c0:Nat) (ks:List (List UInt8)),Box ((W'.alloc (.cells #[.slice A' lb cb] 22)).alloc (.cells #[.slice A la ca] 22)) p0 30 (.slice A0 ks.length c0)/\Own S1 1 9 ((W'.alloc (.cells #[.slice A' lb cb] 22)).alloc (.cells #[.slice A la ca] 22)) w.1.size (.slice A0 ks.length c0) ks/\ks=k1 xs ys++(Xu ([]:List (InE ys))).map (·.key) from
  ⟨A1,c1,ks,(hbx.alloc _).alloc _,(hown.alloc _).alloc _,by rw[HKS1.out];exact(List.append_nil _).symm⟩)
 have hbw2:=(hbl.alloc hbl.size (.cells #[.slice A' lb cb] 22)).alloc (by have:=hbl.size;simp;omega) (.cells #[.slice A la ca] 22);have hDlt:=(Array.getElem?_eq_some_iff.1 hK).1;have hkd2:((W'.alloc (.cells #[.slice A' lb cb] 22)).alloc (.cells #[.slice A la ca] 22)).heap[D]?=some (.deferred (some [])):=(Below.heap_alloc _ _ _ (by simp;omega)).trans ((Below.heap_alloc _ _ _ hDlt).trans hK);have hba2:=(Box.new W' 22 (.slice A' lb cb)).alloc (.cells #[.slice A la ca] 22);have hbb2:=Box.new (W'.alloc (.cells #[.slice A' lb cb] 22)) 22 (.slice A la ca);have hsz5:((W'.alloc (.cells #[.slice A' lb cb] 22)).alloc (.cells #[.slice A la ca] 22)).heap.size=W'.1.size+2:=by simp
 simp only[World.size_alloc] at hbb2;clear hbx hown hks hbl hS hK HBX0
 gi_wp2
 refine⟨trivial,(callsIn_wide.2 (Vf A' A lb cb la ca _)).mono ?_⟩;rintro e w5 ⟨rfl,rfl⟩
 gi_wp2
 generalize (W'.alloc (.cells #[.slice A' lb cb] 22)).alloc (.cells #[.slice A la ca] 22)=W5 at*;generalize hbb2e:W'.1.size+1=bb2 at*;generalize hba2e:W'.1.size=ba2 at*;have HBW2:=jq hbw2;have HKD2:=jq hkd2;have HDL:=jq (show D<W5.1.size by omega);have HD1:=jq (show w.1.size<=D by have:=HBW.out.size;omega);have HS5:=jq (show W3.1.size<=W5.1.size by omega);have HSEQ2:=jq (JG 5 (by omega) (fun b=>b=p0) 9 w.1.size ba2 bb2 A' A lb cb la ca ys xs w W5 HPW.out hbw2 hba2 hbb2 HYS.out HX.out (by omega) (by omega) (fun b h=>by have:=HSZ.out;omega) (fun b hb h=>by have:=HSZ.out;omega) (Nat.le_refl _));clear hbw2 hkd2 hba2 hbb2 hsz5 hDlt hD hle HSEQ
 refine Xa (α:=InE ys) (F:=Fence.wide) (n:=6) rfl (by omega) (gf:=67) (lb:=#[.pointer (some ⟨bb2,0,none⟩),.pointer (some ⟨ba2,0,none⟩)]) rfl trivial (enters_of Tryz.func67 (by kernel_rfl) rfl)
  HSEQ2.out (fun b h=>by have:=HSZ.out;have:=HS5.out;omega) (Below.refl _ _) (fun _=>rfl)
  (fun pre W=>ChI w p0 W5.1.size (k1 xs ys) [D] pre W) (fun _ _=>False) (ChI.own HBW2.out.size (fun d h=>by rw[List.mem_singleton.1 h];exact HDL.out)) (fun _ _ _ _ h _ _=>h)
  ⟨HEX2.out,HBW2.out,Nat.le_refl _,fun d h=>by rw[List.mem_singleton.1 h];exact HKD2.out⟩
  (fun pre x a' Wr=>∃Bx,ChI w p0 W5.1.size (k1 xs ys) [D] pre Wr/\W5.1.size<=Bx/\BlkB Wr Bx (Qb x.1.1 x.1.2) 43/\a'={tmps:=#[.slice A la ca,.slice A' lb cb,undef,undef,.slice none 0 0,.int .i64 0,.pointer (some ⟨p0,0,none⟩),undef,.pointer (some ⟨Bx,0,none⟩),.slice A la ca,.int .i64 0,.bool false,.bool false,.slice A' lb cb,.int .i64 0,.bool false,.bool false,.slice A la ca,.slice A' lb cb,.func (.func 67) #[] #[.pointer (some ⟨bb,0,none⟩),.pointer (some ⟨ba,0,none⟩)],undef,undef,undef,undef,undef,undef,.slice A' lb cb,.slice A la ca,.func (.func 67) #[] #[.pointer (some ⟨bb2,0,none⟩),.pointer (some ⟨ba2,0,none⟩)],.agg (Qb x.1.1 x.1.2),undef,undef,undef,undef,undef,undef,undef,undef,undef],defers:=[]})
  (fun pre x a' _ Wr Wr' row ⟨Bx,hi,h1,h2,h3⟩ hg hr=>⟨Bx,ChI.own HBW2.out.size (fun d h=>by rw[List.mem_singleton.1 h];exact HDL.out) _ _ _ _ hi hg hr,h1,XR h2 hg hr,h3⟩) ?assign ?body ?done ?stop
 case stop=>intro D pre W' _ h;exact h.elim
 case assign=>
  rintro lr pre x Wr K hI hK;obtain⟨⟨f,v⟩,hx⟩:=x
  have hst:=fun cs (hc:cs.size=21)=>QB Wr f v (cs:=cs) hc
  have HI:=jq hI;clear hI
  dsimp only
  gi_wp2
  exact hK _ _ (KpX.below ((Below.refl _ Wr).alloc (Nat.le_refl _) _)) ⟨Wr.1.size,OwnFrom.alloc (ChI.own HBW2.out.size (fun d h=>by rw[List.mem_singleton.1 h];exact HDL.out)) _ HI.out,HI.out.le,heap_alloc_new Wr _,rfl⟩
 case body=>
  rintro lr pre x a' Wr ⟨Bx,⟨⟨A1,c1,ks,hbx,hown,hks⟩,hbl,hle,hdf⟩,hBx,bX,rfl⟩ hlen;obtain⟨⟨f,v⟩,hx⟩:=x
  have cb0:=hbx.cell;have fb0:=hbx.frozen;have q0:=bX.cell 0 (show(Qb f v)[0]?=some (.string ⟨f.key.toArray⟩) from rfl);have HOA:=jq (hown.alloc (.cells #[.string ⟨f.key.toArray⟩] 9));have HBX4:=jq (hbx.alloc (.cells #[.string ⟨f.key.toArray⟩] 9));have HSL:=jq (Zen (heap_alloc_new Wr (.cells #[.string ⟨f.key.toArray⟩] 9)));have HBL4:=jq (hbl.alloc hbl.size (.cells #[.string ⟨f.key.toArray⟩] 9));have HKX4:=jq (show KpX (fun b=>b=p0) 9 w.1.size Wr (Wr.alloc (.cells #[.string ⟨f.key.toArray⟩] 9)) from KpX.below ((Below.refl _ _).alloc (Nat.le_refl _) _));have HKS:=jq hks;have HLE:=jq hle;have HDF:=jq hdf
  have HLL:=jq (show ks.length+1<=100000000000 by
   have h1:=congrArg List.length hks;have h3:(Xu pre).length=pre.length:=by unfold Xu;rw[List.length_map]
   have h4:=HLX.out;have h5:=HLY.out;have h6:=HLM.out;simp only[List.length_append,List.length_map,h3] at h1;omega)
  have hne2:9≠30:=by decide
  clear hbx hown hks hbl hle hdf bX hBx hlen
  gi_wp2_with (gi_at_builtin;refine VF _ rfl (.tmp 30) (.tmp 33) _ rfl Js XP ZbR (base:=w.1.size) (.slice A1 ks.length c1) ks rfl HOA.out _ _ 1 1 [f.key] rfl HSL.out HLL.out HBL4.out.size ?_;intro A2 c2 w2 ho2 hg2 hat2;have hb2:=HBX4.out.grown hg2 (HOA.out.neBox HBX4.out hne2);have cb2:=hb2.cell;have fb2:=hb2.frozen)
  have hown2:∀g,(Value.slice A1 ks.length c1).ownBlock=some g->w.1.size<=g/\∃cs fz,(Wr.alloc (.cells #[.string ⟨f.key.toArray⟩] 9)).heap[g]?=some (.cells cs 9 fz):=fun g e=>by
   rcases HOA.out.2 with ⟨h0,_⟩|⟨g',cap,cur,h0,hb',hgc,_⟩
   ·rw[h0] at e;cases e
   ·rw[h0] at e
    cases e
    exact⟨hb',_,_,hgc⟩
  refine⟨?_,⟨A2,c2,ks++[f.key],?_,?_,?_⟩,?_,?_,?_⟩
  ·exact HKX4.out.trans ((KpX.grown hg2 (fun r e=>.inr (hown2 r e))).trans (KpX.set (E:=fun b=>b=p0) (p:=⟨p0,0,none⟩) rfl _))
  ·rw[List.length_append];exact hb2.set_ _
  ·rw[List.length_append];exact ho2.far (fun h=>ho2.neBox hb2 hne2 h.symm) _
  ·rw[HKS.out,XU,List.map_append,List.append_assoc];rfl
  ·exact(HBL4.out.trans (Qn hg2 HBL4.out.size (Nat.le_refl _) (fun r e=>(hown2 r e).1))).setCell (p:=⟨p0,0,none⟩) HSZ.out.2 _
  ·have h1:=hg2.size;have h2:=HLE.out;simp at *; omega
  ·intro d hd;have h0:=HDF.out d hd;have hlt:d<Wr.1.size:=(Array.getElem?_eq_some_iff.1 h0).1;have h1:(Wr.alloc (.cells #[.string ⟨f.key.toArray⟩] 9)).heap[d]?=some (.deferred (some [])):=(Below.heap_alloc _ _ _ hlt).trans h0
   have h2:=(hg2.block d (by simp;omega) (fun e=>by
    obtain⟨_,cs,fz,h⟩:=hown2 d e.symm
    rw[h1] at h
    cases h)).trans h1
   exact(Below.heap_setCell w2 ⟨p0,0,none⟩ _ d (fun e=>by
    have h3:=HBX4.out;unfold Box at h3
    dsimp only at e
    rw[<-e,h1] at h3
    cases h3)).trans h2
 case done=>
 rintro D2 zs2 W' hD2 hS2 ⟨⟨A1,c1,ks,hbx,hown,hks⟩,hbl,hle,hdf⟩ hK2;have HKD:=jq (hdf D (List.mem_singleton.2 rfl));have HKD2:=jq hK2;have HKS2:=jq (show ks=(QW (xs.map (·.1)) (ys.map (·.1))++QW (ys.map (·.1)) (xs.map (·.1))).map (·.key) by rw[hks,hS2,List.map_append];rfl);rw[<-HKS2.out] at HPO
 have hkl:ks.length<=1000000:=by
  have h1:=congrArg List.length hks;have h6:=HLM.out;have h7:=List.length_filter_le (fun f:Fct=>decide (QX (xs.map (·.1)) f.key≠some f)) (ys.map (·.1));have h8:=HLY.out;have h9:(Xu zs2).length<=(ys.map (·.1)).length:=by rw[hS2];exact h7
  simp only[List.length_append,List.length_map] at h1 h9;omega
 have HSO:=jq (Zfz w.1.size A1 c1 ks W' hown (by omega));have hne2:9≠30:=by decide
 have cb0:=hbx.cell;have HBX:=jq hbx;have HOW:=jq hown;have HBL:=jq hbl;have HDD:=jq hD2;have HLS:=jq hle;clear hbx hown hks hbl hle hdf hK2 hS2 hD2
 gi_wp2
 refine⟨trivial,(callsIn_wide.2 HSO.out).mono ?_⟩;rintro e W6 ⟨rfl,ho6,hg6⟩;have hb6:=HBX.out.grown hg6 (HOW.out.neBox HBX.out hne2);have cb6:=hb6.cell;have HCO:=jq (ZfA w.1.size A1 c1 (Yd ks) W6 ho6 (by rw[JH];omega));rw[ZmG,JH] at HCO
 gi_wp2
 refine⟨trivial,(callsIn_wide.2 HCO.out).mono ?_⟩;rintro e W7 ⟨rfl,ho7,hg7⟩
 gi_wp2
 have hob:∀g,(Value.slice A1 ks.length c1).ownBlock=some g->w.1.size<=g/\(∃cs fz,W'.heap[g]?=some (.cells cs 9 fz)):=fun g e=>by
  rcases HOW.out.2 with ⟨h0,_⟩|⟨g',cap,cur,h0,hb,hgc,_⟩
  ·rw[h0] at e;cases e
  ·rw[h0] at e
   cases e
   exact⟨hb,_,_,hgc⟩
 have hkeep:∀d,W'.heap[d]?=some (Obj.deferred (some []))->W7.heap[d]?=some (Obj.deferred (some [])):=fun d hd=>by
  have hne:some d≠(Value.slice A1 ks.length c1).ownBlock:=fun e=>by
   obtain⟨_,cs,fz,h⟩:=hob d e.symm
   rw[hd] at h
   cases h
  have h6:=(hg6.block d (Array.getElem?_eq_some_iff.1 hd).1 hne).trans hd;exact(hg7.block d (Array.getElem?_eq_some_iff.1 h6).1 hne).trans h6
 have hk1:=hkeep D HKD.out;have hk2:=hkeep D2 HKD2.out;have hbl7:=(HBL.out.trans (Qn hg6 HBL.out.size (Nat.le_refl _) (fun r e=>(hob r e).1)));have hbl8:=hbl7.trans (Qn hg7 hbl7.size (Nat.le_refl _) (fun r e=>(hob r e).1));have hput:=grownBy_putObj' W7 D2 (.deferred none);have hDD:=HDD.out;have hs3:=HBW2.out.size;have hdl:=HDL.out;have hk3:(W7.putObj D2 (.deferred none)).heap[D]?=some (.deferred (some [])):=(World.putObj_heap_other (by omega)).trans hk1;have hput2:=grownBy_putObj' (W7.putObj D2 (.deferred none)) D (.deferred none);have hD1:=HD1.out;have hbl9:=hbl8.trans (Qn hput hbl8.size (Nat.le_refl _) (fun r e=>by cases e;omega));have hbl10:=hbl9.trans (Qn hput2 hbl9.size (Nat.le_refl _) (fun r e=>by cases e;omega));have ho9:=(ho7.turned hput (B:=w.1.size) (fun r e=>by cases e;exact⟨by omega,_,hk2,rfl⟩)).turned hput2 (B:=w.1.size) (fun r e=>by cases e;exact⟨by omega,_,hk3,rfl⟩);refine⟨by simp,.inl ⟨_,_,rfl,run_takeDeferred hk2,?_⟩⟩;refine⟨by simp,.inl ⟨_,_,rfl,run_takeDeferred hk3,?_⟩⟩;refine⟨_,results_tmp2 rfl _ _ _,?_⟩;rw[HPO.out];exact⟨A1,c1,rfl,ho9,hbl10⟩
end
section
attribute [local go_sem] Oper.semAt_some
def buF(ps:Array (Nat×Value)):Sem Value:=Instr.build 43 ps
theorem Znw(ps:Array (Nat×Value)):Instr.build 43 ps=buF ps:=rfl
attribute [local go_sem ↓] Ql Qz YP Znw
theorem Zla(k:List UInt8)(s:Int)(b:Bool)(w:World):(buF #[(0,.string ⟨k.toArray⟩),(1,.int .i64 s),(2,.bool b)]).run Tryz.prog w=.ok (.agg (Qb ⟨k,s,b,0,0,[],[],[],[],[],[],[],⟨[],[]⟩,⟨[],[]⟩,⟨[],[]⟩,[],[],0⟩ Qx)) w:=by
 kernel_rfl
theorem ZiH(w:World):(buF #[(0,.string ⟨[98].toArray⟩),(1,.int .i64 4),(2,.bool true)]).run Tryz.prog w=.ok (.agg (Qb ZmA Qx)) w:=Zla [98] 4 true w
theorem Zlb{w:World}{B:Nat}{f:Fct}(h1:f.picks=[])(h2:f.options=[])(h3:f.Sz 1000):FxM w B (f,Qx):=
 ⟨⟨by rw[show(f,Qx).1.picks=[] from h1];exact Sl.nil,by rw[show(f,Qx).1.options=[] from h2];exact Sl.nil,Nat.le_refl _⟩,Nat.zero_le _,Nat.zero_le _,h3⟩
theorem ZcN(w:World)(xs:List Fx)(h:∀x∈xs,x.2=Qx/\x.1.picks=[]/\x.1.options=[]/\x.1.Sz 1000):
 Fxs (w.alloc (.cells (xs.flatMap QF).toArray 43)) (w.alloc (.cells (xs.flatMap QF).toArray 43)).heap.size (some ⟨w.1.size,0,none⟩) xs.length xs:=
 ⟨(Sl.lit (enc:=QF) (k:=21) w _ _ xs rfl Qc).more (by simp),fun x hx=>by
   obtain⟨h1,h2,h3,h4⟩:=h x hx
   obtain⟨f,v⟩:=x
   subst h1;exact Zlb h2 h3 h4⟩
theorem Znx{key:List UInt8}{stamp day:Int}(hk:key.length<=24)(h1:I64 stamp)(h2:I64 day):(Yv key stamp day).Sz 1000:=by
 have h0:∀n:Nat,n<=3->n<=1000:=fun n h=>by omega
 exact⟨Nat.le_trans hk (by omega),h0 0 (by omega),h0 0 (by omega),h0 3 (by omega),h0 0 (by omega),h0 0 (by omega),h0 1 (by omega),h0 0 (by omega),⟨h0 0 (by omega),h0 0 (by omega)⟩,⟨h0 0 (by omega),h0 0 (by omega)⟩,⟨h0 0 (by omega),h0 0 (by omega)⟩,(fun _ h=>by cases h),(fun _ h=>by cases h),h1,h2,
  (show I64 1 from⟨by decide,by decide⟩),(show I64 0 from⟨by decide,by decide⟩)⟩
theorem Zny:ZmA.Sz 1000:=
 ⟨by decide,by decide,by decide,by decide,by decide,by decide,by decide,by decide,⟨by decide,by decide⟩,⟨by decide,by decide⟩,⟨by decide,by decide⟩,(fun _ h=>by cases h),(fun _ h=>by cases h),⟨by decide,by decide⟩,⟨by decide,by decide⟩,⟨by decide,by decide⟩,⟨by decide,by decide⟩⟩
def vx(l:List Fct):List Fx:=l.map fun f=>(f,Qx)
theorem ZgF(l:List Fct):(vx l).map (·.1)=l:=by unfold vx;rw[List.map_map];exact List.map_id' l
theorem Zlc{l:List Fct}(h:∀f∈l,f.picks=[]/\f.options=[]/\f.Sz 1000):∀x∈vx l,x.2=Qx/\x.1.picks=[]/\x.1.options=[]/\x.1.Sz 1000:=by
 intro x hx;obtain⟨f,hf,rfl⟩:=List.mem_map.1 hx
 exact⟨rfl,h f hf⟩
theorem ZcO{key:List UInt8}{stamp day:Int}(hk:key.length<=24)(h1:I64 stamp)(h2:I64 day):(Yv key stamp day).picks=[]/\(Yv key stamp day).options=[]/\(Yv key stamp day).Sz 1000:=⟨rfl,rfl,Znx hk h1 h2⟩
theorem Znz:∀f∈aw4,f.picks=[]/\f.options=[]/\f.Sz 1000:=by
 intro f hf;simp only[aw4,List.mem_cons,List.mem_nil_iff,or_false] at hf
 rcases hf with rfl|rfl|rfl|rfl
 ·exact ZcO (by decide) ⟨by decide,by decide⟩ ⟨by decide,by decide⟩
 ·exact ZcO (by decide) ⟨by decide,by decide⟩ ⟨by decide,by decide⟩
 ·exact ZcO (by decide) ⟨by decide,by decide⟩ ⟨by decide,by decide⟩
 ·exact⟨rfl,rfl,Zny⟩
theorem ZnA:∀f∈awX,f.picks=[]/\f.options=[]/\f.Sz 1000:=by
 intro f hf;simp only[awX,List.mem_cons,List.mem_nil_iff,or_false] at hf
 rcases hf with rfl|rfl<;>exact ZcO (by decide) ⟨by decide,by decide⟩ ⟨by decide,by decide⟩
theorem ZnB:∀f∈awY,f.picks=[]/\f.options=[]/\f.Sz 1000:=by
 intro f hf;simp only[awY,List.mem_cons,List.mem_nil_iff,or_false] at hf
 rcases hf with rfl|rfl<;>exact ZcO (by decide) ⟨by decide,by decide⟩ ⟨by decide,by decide⟩
theorem Zld{xs:List Fx}{l:List Fct}{n:Nat}(h:xs.map (·.1)=l)(hl:l.length=n):xs.length=n:=by rw[<-hl,<-h,List.length_map]
theorem Zbf(w:World)(hp:Env w):Calls Tryz.prog 7 #[] w fun e w'=>e=.returned (.bool true)/\Below w.1.size w w':=by
 have H:=jq (Kp.start hp);have hbu:=ZiH;clear hp;go_enter Tryz.func7,Tryz.ntmps7
 go_wp2_with fail
 refine(XB [97] 1 5 _).mono ?_;rintro e w1 ⟨rfl,hb1⟩;have H1:=jq (H.out.here hb1);clear hb1 H;go_wp2_with fail
 refine(XB [98] 2 3 _).mono ?_;rintro e w2 ⟨rfl,hb2⟩;have H2:=jq (H1.out.here hb2);clear hb2 H1;go_wp2_with fail
 refine(XB [97] 3 2 _).mono ?_;rintro e w3 ⟨rfl,hb3⟩;have H3:=jq (H2.out.here hb3);have hbs:(blF 4 #[(0,.agg (Qb (Yv [97] 1 5) Qx)),(1,.agg (Qb (Yv [98] 2 3) Qx)),(2,.agg (Qb (Yv [97] 3 2) Qx)),(3,.agg (Qb ZmA Qx))]).run Tryz.prog w3=.ok (.slice (some ⟨w3.1.size,0,none⟩) 4 4) (w3.alloc (.cells ((vx aw4).flatMap QF).toArray 43)):=Zb7 w3 (vx aw4) _ (by simp[vx,aw4]) (by decide) rfl;have H4:=jq (H3.out.alloc (.cells ((vx aw4).flatMap QF).toArray 43));have HF4:=jq (ZcN w3 (vx aw4) (Zlc Znz));have HO2:=jq (fun W (hb:Below (w3.alloc (.cells ((vx aw4).flatMap QF).toArray 43)).heap.size (w3.alloc (.cells ((vx aw4).flatMap QF).toArray 43)) W) (k:Int)=>Zfx (some ⟨w3.1.size,0,none⟩) 4 4 (vx aw4) k W (H4.out.here hb).pw (Nat.le_refl _) (fun e=>by cases e) (HF4.out.here hb) (by omega));rw[ZgF] at HO2;have HA2:=jq (fun W hb=>HO2.out W hb 2);have HA3:=jq (fun W hb=>HO2.out W hb 3);have HA4:=jq (fun W hb=>HO2.out W hb 4);rw[Znp] at HA2;rw[Znq] at HA3;rw[Znr] at HA4
 dsimp only at HA2 HA3 HA4
 unfold FsPost at HA2 HA3 HA4;clear hb3 H2 HO2 HF4;go_wp2_with fail
 generalize w3.alloc (.cells ((vx aw4).flatMap QF).toArray 43)=W4 at*;generalize w3.1.size=p4 at*;refine(HA2.out _ (Below.refl _ _)).mono ?_;rintro e w5 ⟨A5,c5,x5,rfl,hf5,hx5,_,hb5⟩;have hl5:=Zld hx5 (show awX.length=2 from rfl);rw[hl5] at hf5 ⊢;have H5:=jq (H4.out.here hb5);have HB5:=jq hb5;have HF5:=jq hf5;have HX5:=jq hx5;clear hb5 hf5 hx5 hl5 hbs hbu HA2 H3;go_wp2_with fail
 refine(HA3.out _ HB5.out).mono ?_;rintro e w6 ⟨A6,c6,x6,rfl,hf6,hx6,hc6,hb6⟩;have hl6:=Zld hx6 (show awY.length=2 from rfl);rw[hl6] at hf6 hc6 ⊢;have hc61:=hc6.1;have H6:=jq (H5.out.here hb6);have HB6:=jq (HB5.out.trans (hb6.mono HB5.out.size));have HF6:=jq hf6;have HX6:=jq hx6;have HG5:=jq (HF5.out.here hb6);clear hb6 hf6 hx6 hl6 hc6 HA3 HB5 HF5 H5;go_wp2_with fail
 refine(HA4.out _ HB6.out).mono ?_;rintro e w7 ⟨A7,c7,x7,rfl,hf7,hx7,_,hb7⟩;have hl7:=Zld hx7 (show awZ.length=1 from rfl);rw[hl7] at hf7 ⊢;have H7:=jq (H6.out.here hb7);have HF7:=jq hf7;have HX7:=jq hx7;have HG6:=jq (HF6.out.here hb7);have HI5:=jq (HG5.out.here hb7);clear hb7 hf7 hx7 hl7 HA4 HB6 HF6 HG5 H6;have HFI:=jq (Zbt A5 A6 2 c5 2 c6 x5 x6 w7 H7.out.pw HI5.out HG6.out (by omega) (by omega));rw[HX5.out,HX6.out,Zk3] at HFI;unfold Jr at HFI
 dsimp only at HFI
 go_wp2_with fail
 refine HFI.out.mono ?_;rintro e w8 ⟨rfl,hb8⟩;have H8:=jq (H7.out.here hb8);have J5:=jq (HI5.out.here hb8);have J6:=jq (HG6.out.here hb8);have J7:=jq (HF7.out.here hb8);clear hb8 HFI H7 HI5 HG6 HF7;have HCH:=jq (ZdI A5 A6 2 c5 2 c6 x5 x6 w8 H8.out.pw J5.out J6.out (by omega) (by omega));rw[HX5.out,HX6.out,Zns] at HCH;unfold KsPost at HCH
 dsimp only at HCH
 go_wp2_with fail
 refine HCH.out.mono ?_;rintro e w9 ⟨A9,c9,rfl,ho9,hb9⟩;have H9:=jq (H8.out.here hb9);have K5:=jq (J5.out.here hb9);have K6:=jq (J6.out.here hb9);have K7:=jq (J7.out.here hb9);have H10:=jq (H9.out.alloc (.cells #[.string ⟨[97].toArray⟩] 9));have HB10:=jq ((Below.refl w9.1.size w9).alloc (Nat.le_refl _) (.cells #[.string ⟨[97].toArray⟩] 9));have HEQ:=jq (Zbu A9 (some ⟨w9.1.size,0,none⟩) 1 c9 1 [[97]] (w9.alloc (.cells #[.string ⟨[97].toArray⟩] 9)) ((ho9.sl XP).here HB10.out) (Zen (heap_alloc_new w9 _)) (by omega));clear ho9 hb9 HCH H8 J5 J6 J7;go_wp2_with fail
 refine HEQ.out.mono ?_;rintro e w11 ⟨rfl,hb11⟩;have H11:=jq (H10.out.here hb11);have HB11:=jq (HB10.out.trans (hb11.mono HB10.out.size));have L5:=jq (K5.out.here HB11.out);have L6:=jq (K6.out.here HB11.out);have L7:=jq (K7.out.here HB11.out);clear hb11 HEQ HB10 H10 HB11 K5 K6 K7 H9;go_wp2_with fail
 refine(XB [98] 0 3 _).mono ?_;rintro e w12 ⟨rfl,hb12⟩;have H12:=jq (H11.out.here hb12);have M5:=jq (L5.out.here hb12);have M6:=jq (L6.out.here hb12);have M7:=jq (L7.out.here hb12);clear hb12 H11 L5 L6 L7;go_wp2_with fail
 refine(XB [97] 0 5 _).mono ?_;rintro e w13 ⟨rfl,hb13⟩;have H13:=jq (H12.out.here hb13);have N5:=jq (M5.out.here hb13);have N6:=jq (M6.out.here hb13);have N7:=jq (M7.out.here hb13);clear hb13 H12 M5 M6 M7;have hbs:(blF 2 #[(0,.agg (Qb (Yv [98] 0 3) Qx)),(1,.agg (Qb (Yv [97] 0 5) Qx))]).run Tryz.prog w13=.ok (.slice (some ⟨w13.1.size,0,none⟩) 2 2) (w13.alloc (.cells ((vx awX).flatMap QF).toArray 43)):=Zb7 w13 (vx awX) _ (by simp[vx,awX]) (by decide) rfl;have H14:=jq (H13.out.alloc (.cells ((vx awX).flatMap QF).toArray 43));have HA14:=jq ((Below.refl w13.1.size w13).alloc (Nat.le_refl _) (.cells ((vx awX).flatMap QF).toArray 43));have HS14:=jq (VG A5 (some ⟨w13.1.size,0,none⟩) 2 2 c5 2 x5 (vx awX) _ H14.out.pw (N5.out.here HA14.out) (ZcN w13 (vx awX) (Zlc ZnA)) (by omega) (by omega));rw[decide_eq_true (show x5.map (·.1)=(vx awX).map (·.1) by rw[HX5.out,ZgF])] at HS14;have O6:=jq (N6.out.here HA14.out);have O7:=jq (N7.out.here HA14.out);clear N5 N6 N7 H13;go_wp2_with fail
 refine HS14.out.mono ?_;rintro e w15 ⟨rfl,hb15⟩;have H15:=jq (H14.out.here hb15);have P6:=jq (O6.out.here hb15);have P7:=jq (O7.out.here hb15);clear hb15 hbs H14 HA14 HS14 O6 O7 HX5;go_wp2_with fail
 refine(XB [97] 0 2 _).mono ?_;rintro e w16 ⟨rfl,hb16⟩;have H16:=jq (H15.out.here hb16);have Q6:=jq (P6.out.here hb16);have Q7:=jq (P7.out.here hb16);clear hb16 H15 P6 P7;go_wp2_with fail
 refine(XB [98] 0 3 _).mono ?_;rintro e w17 ⟨rfl,hb17⟩;have H17:=jq (H16.out.here hb17);have R6:=jq (Q6.out.here hb17);have R7:=jq (Q7.out.here hb17);clear hb17 H16 Q6 Q7;have hbs:(blF 2 #[(0,.agg (Qb (Yv [97] 0 2) Qx)),(1,.agg (Qb (Yv [98] 0 3) Qx))]).run Tryz.prog w17=.ok (.slice (some ⟨w17.1.size,0,none⟩) 2 2) (w17.alloc (.cells ((vx awY).flatMap QF).toArray 43)):=Zb7 w17 (vx awY) _ (by simp[vx,awY]) (by decide) rfl;have H18:=jq (H17.out.alloc (.cells ((vx awY).flatMap QF).toArray 43));have HA18:=jq ((Below.refl w17.1.size w17).alloc (Nat.le_refl _) (.cells ((vx awY).flatMap QF).toArray 43));have HS18:=jq (VG A6 (some ⟨w17.1.size,0,none⟩) 2 2 c6 2 x6 (vx awY) _ H18.out.pw (R6.out.here HA18.out) (ZcN w17 (vx awY) (Zlc ZnB)) (by omega) (by omega));rw[decide_eq_true (show x6.map (·.1)=(vx awY).map (·.1) by rw[HX6.out,ZgF])] at HS18;have S6:=jq (R6.out.here HA18.out);have S7:=jq (R7.out.here HA18.out);clear R6 R7 H17;go_wp2_with fail
 refine HS18.out.mono ?_;rintro e w19 ⟨rfl,hb19⟩;have H19:=jq (H18.out.here hb19);have HSZ:=jq (VG A7 A6 1 1 c7 c6 x7 (x6.take 1) w19 H19.out.pw (S7.out.here hb19) ((S6.out.here hb19).upto (by omega)) (by omega) (by omega));rw[decide_eq_true (show x7.map (·.1)=(x6.take 1).map (·.1) by rw[HX7.out,List.map_take,HX6.out];rfl)] at HSZ;have hc0:1<=c6:=by omega
 clear hb19 hbs H18 HA18 HS18 S6 S7 HX6 HX7;go_wp2_with fail
 refine HSZ.out.mono ?_;rintro e w20 ⟨rfl,hb20⟩;have H20:=jq (H19.out.here hb20);clear hb20 HSZ H19;go_wp2_with fail
 first|go_ret|skip
 exact⟨rfl,H20.out.bl⟩
end
end Go.Proofs.YtmfjmngebldanaaGreatDoor
