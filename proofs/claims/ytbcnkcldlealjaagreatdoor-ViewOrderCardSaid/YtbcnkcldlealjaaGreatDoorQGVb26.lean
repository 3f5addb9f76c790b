/- Vfs. -/
import Derived.Test.YtbcnkcldlealjaaGreatDoorQGVb25
import Derived.Test.YtbcnkcldlealjaaGreatDoorQGVb37
set_option maxRecDepth 100000
set_option maxHeartbeats 8000000
namespace Go.Proofs.YtbcnkcldlealjaaGreatDoor
open Go.Lib renaming hid→jq
section
open Go.RowKit Go.Shelf
attribute [local go_sem] Oper.semAt_some
attribute [local go_sem ↓] Qq QA
def Zaf(r:Int×Bool×Int)(w:World):Ending->World->Prop:=fun e w'=>e=.returned (.tuple #[.int .i64 r.1,.bool r.2.1,.int .i64 r.2.2])/\Below w.1.size w w'
theorem Zkv(w:World)(o1 o2 o3 o4 o5 o6 o7:Obj){W:World}(h:W=((((((w.alloc o1).alloc o2).alloc o3).alloc o4).alloc o5).alloc o6).alloc o7):
 W.1.size=w.1.size+7/\Below w.1.size w W/\W.heap[w.1.size]?=some o1/\W.heap[w.1.size+1]?=some o2/\W.heap[w.1.size+1+1]?=some o3/\W.heap[w.1.size+1+1+1]?=some o4/\W.heap[w.1.size+1+1+1+1]?=some o5/\
  W.heap[w.1.size+1+1+1+1+1]?=some o6/\W.heap[w.1.size+1+1+1+1+1+1]?=some o7:=by
 subst h;have up:∀{W:World} {b:Nat} {x o:Obj},W.heap[b]?=some x->(W.alloc o).heap[b]?=some x:=fun {W b x o} h=>(Below.heap_alloc W o b (Array.getElem?_eq_some_iff.1 h).1).trans h
 have e1:=World.alloc_heap_new w o1;have e2:=World.alloc_heap_new (w.alloc o1) o2;have e3:=World.alloc_heap_new ((w.alloc o1).alloc o2) o3;have e4:=World.alloc_heap_new (((w.alloc o1).alloc o2).alloc o3) o4;have e5:=World.alloc_heap_new ((((w.alloc o1).alloc o2).alloc o3).alloc o4) o5;have e6:=World.alloc_heap_new (((((w.alloc o1).alloc o2).alloc o3).alloc o4).alloc o5) o6;have e7:=World.alloc_heap_new ((((((w.alloc o1).alloc o2).alloc o3).alloc o4).alloc o5).alloc o6) o7;simp only[World.size_alloc] at e1 e2 e3 e4 e5 e6 e7;exact⟨by simp,((((((((Below.refl _ w).alloc (Nat.le_refl _) _).alloc (by simp) _).alloc (by simp;omega) _).alloc (by simp;omega) _).alloc (by simp;omega) _).alloc (by simp;omega) _).alloc (by simp;omega) _),up (up (up (up (up (up e1))))),up (up (up (up (up e2)))),up (up (up (up e3))),up (up (up e4)),up (up e5),up e6,e7⟩
def m1(xs ys:List Fx):Int×Bool:=(Qs (xs.map (·.1)) (ys.map (·.1))).foldl QV (0,false)
structure FiI {xs:List Fx} (w:World) (bd bf sz:Nat) (p0:Int×Bool) (ds:List Nat) (R:World->Prop) (pre:List (InE xs)) (W:World):Prop where
 d:Box W bd 33 (.int .i64 ((Xb pre).foldl QV p0).1)
 f:Box W bf 4 (.bool ((Xb pre).foldl QV p0).2)
 r:R W
 bl:Below w.1.size w W
 le:sz<=W.1.size
 df:∀d∈ds,W.heap[d]?=some (.deferred (some []))
theorem FiI.own{xs:List Fx}{w:World}{bd bf sz:Nat}{p0:Int×Bool}{ds:List Nat}{R:World->Prop}(hsz:w.1.size<=sz)(hds:∀d∈ds,d<sz)(hR:OwnFrom sz (fun(_:Unit) W=>R W)):OwnFrom sz (fun pre W=>FiI (xs:=xs) w bd bf sz p0 ds R pre W):=by
 rintro pre W W' row ⟨h1,h2,h3,hb,hle,hd⟩ hg hr;have hbb:=Qo (B:=w.1.size) hg (by omega) hsz (fun r e=>(hr r e).1);exact⟨h1.turned hg hr,h2.turned hg hr,hR () _ _ _ h3 hg hr,hb.trans hbb,Nat.le_trans hle hg.size,fun d hm=>(hg.block d (Array.getElem?_eq_some_iff.1 (hd d hm)).1 (fun e=>by have:=(hr d e.symm).1;have:=hds d hm;omega)).trans (hd d hm)⟩
theorem Zav(A A':Option Addr)(la ca lb cb:Nat)(xs ys:List Fx)(w:World)(hp:Env w)(hx:Fxs w w.1.size A la xs)(hy:Fxs w w.1.size A' lb ys)(hl:la<=100000)(hlb:lb<=100000):
 Calls Tryz.prog 19 #[.slice A la ca,.slice A' lb cb] w (Zaf (JT (xs.map (·.1)) (ys.map (·.1))) w):=by
 have HCA:=jq (fun W (hb:Below w.1.size w W)=>Xw A la ca xs W (hp.here hb) (hx.here hb) (by omega));have HCB:=jq (fun W (hb:Below w.1.size w W)=>Xw A' lb cb ys W (hp.here hb) (hy.here hb) (by omega));have hch:JT (xs.map (·.1)) (ys.map (·.1))=if Yi (xs.map (·.1))≠0\/Yi (ys.map (·.1))≠0 then(0,false,1) else(((Qs (xs.map (·.1)) (ys.map (·.1))++Qs (ys.map (·.1)) (xs.map (·.1))).foldl QV (0,false)).1,((Qs (xs.map (·.1)) (ys.map (·.1))++Qs (ys.map (·.1)) (xs.map (·.1))).foldl QV (0,false)).2,0):=rfl
 have HX:=jq hx;have HYS:=jq hy;have HPW:=jq hp;clear hx hy hp;generalize Yi (xs.map (·.1))=za at*;generalize Yi (ys.map (·.1))=zb at*;generalize JT (xs.map (·.1)) (ys.map (·.1))=res at*
 by_cases h0:za=0
 case neg=>
  rw[if_pos (.inl h0)] at hch;have HRS:=jq hch;have hz:(za !=0)=true:=by simp[h0]
  generalize hpo:Zaf res w=post at*;have HPO:=jq hpo;clear hch h0 hpo;go_enter Tryz.func19,Tryz.ntmps19
  go_wp2_with fail
  refine(HCA.out w (Below.refl _ _)).mono ?_;rintro e w1 ⟨rfl,hb1⟩;go_wp2_with fail
  first|go_ret2|skip
  refine⟨rfl,_,results_tmp3 rfl _ _ _,?_⟩;rw[<-HPO.out,HRS.out];exact⟨rfl,hb1⟩
 subst h0
 by_cases h1:zb=0
 case neg=>
  rw[if_pos (.inr h1)] at hch;have HRS:=jq hch;have hz:(zb !=0)=true:=by simp[h1]
  generalize hpo:Zaf res w=post at*;have HPO:=jq hpo;clear hch h1 hpo;go_enter Tryz.func19,Tryz.ntmps19
  go_wp2_with fail
  refine(HCA.out w (Below.refl _ _)).mono ?_;rintro e w1 ⟨rfl,hb1⟩;go_wp2_with fail
  refine(HCB.out _ hb1).mono ?_;rintro e w2 ⟨rfl,hb2⟩;go_wp2_with fail
  first|go_ret2|skip
  refine⟨rfl,_,results_tmp3 rfl _ _ _,?_⟩;rw[<-HPO.out,HRS.out];exact⟨rfl,hb1.trans (hb2.mono hb1.size)⟩
 subst h1;rw[if_neg (by simp)] at hch;have HRS:=jq hch;generalize hpo:Zaf res w=post at*;have HPO:=jq hpo;clear hch hpo;refine(callsIn_wide (n:=6)).1 ?_;refine callsIn_of_wp_marks Tryz.func19 rfl trivial ?_ rfl;simp only[Tryz.ntmps19,List.size_toArray,List.length_cons,List.length_nil,Nat.reduceAdd,Nat.reduceSub,Array.replicate_succ,Array.replicate_zero,List.push_toArray,List.append_toArray,List.nil_append,List.cons_append]
 gi_wp2
 refine⟨trivial,(callsIn_wide.2 (HCA.out _ (Below.refl _ _))).mono ?_⟩;rintro e w1 ⟨rfl,hb1⟩
 gi_wp2
 refine⟨trivial,(callsIn_wide.2 (HCB.out _ hb1)).mono ?_⟩;rintro e w2 ⟨rfl,hb2⟩
 gi_wp2
 refine⟨trivial,(callsIn_wide.2 (Yx A A' la ca lb cb _)).mono ?_⟩;rintro e w3 ⟨rfl,rfl⟩
 gi_wp2
 refine⟨trivial,(callsIn_wide.2 (Yx A' A lb cb la ca _)).mono ?_⟩;rintro e w4 ⟨rfl,rfl⟩
 gi_wp2
 obtain⟨W3,hW3⟩:∃W3,W3=((((((w2.alloc (.cells #[.int .i64 0] 33)).alloc (.cells #[.bool false] 4)).alloc (.cells #[.slice A la ca] 22)).alloc (.cells #[.slice A' lb cb] 22)).alloc (.cells #[.slice A' lb cb] 22)).alloc (.cells #[.slice A la ca] 22)).alloc (.cells #[.func (.func 87) #[] #[.pointer (some ⟨w2.1.size+1+1+1,0,none⟩),.pointer (some ⟨w2.1.size+1+1,0,none⟩)],.func (.func 87) #[] #[.pointer (some ⟨w2.1.size+1+1+1+1+1,0,none⟩),.pointer (some ⟨w2.1.size+1+1+1+1,0,none⟩)]] 65):=⟨_,rfl⟩
 rw[<-hW3];obtain⟨hsz,hbl3,x1,x2,x3,x4,x5,x6,x7⟩:=Zkv w2 _ _ _ _ _ _ _ hW3
 clear hW3;have hbw:=hb1.trans ((hb2.trans (hbl3.mono hb2.size)).mono hb1.size);have h2s:=(hb1.trans (hb2.mono hb1.size)).size;generalize hqe:w2.1.size+1+1+1+1+1+1=q at*;generalize ha2e:w2.1.size+1+1+1+1+1=a2 at*;generalize hb2e:w2.1.size+1+1+1+1=b2 at*;generalize hb1e:w2.1.size+1+1+1=b1 at*;generalize ha1e:w2.1.size+1+1=a1 at*;generalize hbfe:w2.1.size+1=bf at*;generalize hbde:w2.1.size=bd at*;have HBW:=jq hbw;have HSZ:=jq (show W3.1.size=bd+7/\w.1.size<=bd/\bf=bd+1/\a1=bd+2/\b1=bd+3/\b2=bd+4/\a2=bd+5/\q=bd+6 by omega);have HSEQ:=jq (VM 5 (by omega) (fun b=>b=bd\/b=bf) 9 w.1.size a1 b1 A A' la ca lb cb xs ys w W3 HPW.out hbw x3 x4 HX.out HYS.out (by omega) (by omega) (fun b h=>by omega) (fun b hb h=>by omega) (Nat.le_refl _));have HX1:=jq x1;have HX2:=jq x2;have HX5:=jq x5;have HX6:=jq x6;have HX7:=jq x7;have cq:=(show BlkB W3 q _ 65 from x7).cell 0 rfl;clear HCA HCB hb1 hb2 hbl3 hbw h2s hsz x1 x2 x3 x4 x5 x6 x7 hqe ha2e hb2e hb1e ha1e hbfe hbde;refine wpIn_loop_rounds 3 ?_;rw[roundsIn_succ]
 gi_wp2
 obtain⟨RR,hRR⟩:∃RR:World->Prop,RR=fun W=>Box W b2 22 (.slice A' lb cb)/\Box W a2 22 (.slice A la ca)/\BlkB W q #[.func (.func 87) #[] #[.pointer (some ⟨b1,0,none⟩),.pointer (some ⟨a1,0,none⟩)],.func (.func 87) #[] #[.pointer (some ⟨a2,0,none⟩),.pointer (some ⟨b2,0,none⟩)]] 65:=⟨_,rfl⟩
 have HRE:=jq hRR
 have HROWN:=jq (show ∀sz,bd+7<=sz->OwnFrom sz (fun(_:Unit) W=>RR W) from fun sz hsz=>by
  rw[hRR];rintro _ W W' row ⟨h1,h2,h3⟩ hg hr;exact⟨h1.turned hg hr,h2.turned hg hr,Xr h3 hg hr⟩)
 have HRK:=jq (show ∀W u v,RR W->RR ((W.setCell ⟨bd,0,none⟩ u).setCell ⟨bf,0,none⟩ v) from fun W u v h=>by
  rw[hRR] at h ⊢;have:=HSZ.out
  obtain⟨h1,h2,h3⟩:=h
  exact⟨(h1.far (p:=⟨bd,0,none⟩) (show b2≠bd by omega) _).far (p:=⟨bf,0,none⟩) (show b2≠bf by omega) _,(h2.far (p:=⟨bd,0,none⟩) (show a2≠bd by omega) _).far (p:=⟨bf,0,none⟩) (show a2≠bf by omega) _,(h3.far (a:=⟨bd,0,none⟩) (show q≠bd by omega) _).far (a:=⟨bf,0,none⟩) (show q≠bf by omega) _⟩)
 have HR0:=jq (show RR W3 by rw[hRR];exact⟨HX5.out,HX6.out,HX7.out⟩);clear hRR
 refine QH (α:=InE xs) (F:=Fence.wide) (n:=6) rfl (by omega) (gf:=87) (lb:=#[.pointer (some ⟨b1,0,none⟩),.pointer (some ⟨a1,0,none⟩)]) rfl trivial (enters_of Tryz.func87 (by kernel_rfl) rfl)
  HSEQ.out (fun b h=>by have:=HSZ.out;omega) (Below.refl _ _) (fun _=>rfl)
  (fun pre W=>FiI w bd bf W3.1.size (0,false) [] RR pre W) (fun _ _=>False) (FiI.own (xs:=xs) HBW.out.size (fun d h=>by cases h) (HROWN.out _ (by have:=HSZ.out;omega))) (fun _ _ _ _ h _ _=>h)
  ⟨HX1.out,HX2.out,HR0.out,HBW.out,Nat.le_refl _,fun d h=>by cases h⟩
  (fun pre x a' Wr=>∃Bx,FiI w bd bf W3.1.size (0,false) [] RR pre Wr/\W3.1.size<=Bx/\BlkB Wr Bx (Qa x.1.1 x.1.2) 44/\a'={tmps:=#[.slice A la ca,.slice A' lb cb,undef,undef,.int .i64 0,.bool false,.int .i64 0,.pointer (some ⟨bd,0,none⟩),.pointer (some ⟨bf,0,none⟩),undef,.func (.func 87) #[] #[.pointer (some ⟨b1,0,none⟩),.pointer (some ⟨a1,0,none⟩)],.pointer (some ⟨Bx,0,none⟩),.slice A la ca,.int .i64 0,.bool false,.bool false,.slice A' lb cb,.int .i64 0,.bool false,.bool false,.slice A la ca,.slice A' lb cb,.func (.func 87) #[] #[.pointer (some ⟨b1,0,none⟩),.pointer (some ⟨a1,0,none⟩)],.slice A' lb cb,.slice A la ca,.func (.func 87) #[] #[.pointer (some ⟨a2,0,none⟩),.pointer (some ⟨b2,0,none⟩)],.slice (some ⟨q,0,none⟩) 2 2,.int .i64 2,.int .i64 0,.bool true,.pointer (some ⟨q,0,none⟩),.func (.func 87) #[] #[.pointer (some ⟨b1,0,none⟩),.pointer (some ⟨a1,0,none⟩)],.func (.func 87) #[] #[.pointer (some ⟨b1,0,none⟩),.pointer (some ⟨a1,0,none⟩)],.agg (Qa x.1.1 x.1.2),undef,undef,undef,undef,undef,undef,undef,undef,undef,undef,undef,undef,undef],defers:=[]})
  (fun pre x a' _ Wr Wr' row ⟨Bx,hi,h1,h2,h3⟩ hg hr=>⟨Bx,(FiI.own (xs:=xs) HBW.out.size (fun d h=>by cases h) (HROWN.out _ (by have:=HSZ.out;omega))) _ _ _ _ hi hg hr,h1,Xr h2 hg hr,h3⟩) ?assign ?body ?done ?stop
 case stop=>intro D pre W' _ h;exact h.elim
 case assign=>
  rintro lr pre x Wr K hI hK;obtain⟨⟨f,v⟩,hx⟩:=x
  have hst:=fun cs (hc:cs.size=21)=>Qj Wr f v (cs:=cs) hc
  have HI:=jq hI;clear hI
  dsimp only
  gi_wp2
  exact hK _ _ (KpX.below ((Below.refl _ Wr).alloc (Nat.le_refl _) _)) ⟨Wr.1.size,OwnFrom.alloc (FiI.own (xs:=xs) HBW.out.size (fun d h=>by cases h) (HROWN.out _ (by have:=HSZ.out;omega))) _ HI.out,HI.out.le,heap_alloc_new Wr _,rfl⟩
 case body=>
  rintro lr pre x a' Wr ⟨Bx,⟨hbd,hbf,hrr,hbl,hle,hdf⟩,hBx,bX,rfl⟩ hlen;obtain⟨⟨f,v⟩,hx⟩:=x
  have q3:=bX.cell 3 (show(Qa f v)[3]?=some (.int .i64 f.day) from rfl);have HNX:=jq (show(Xb (pre++[⟨(f,v),hx⟩])).foldl QV (0,false)=QV ((Xb pre).foldl QV (0,false)) f by rw[Xu,List.foldl_append];rfl);generalize (Xb pre).foldl QV (0,false)=pr at*;obtain⟨d0,f0⟩:=pr
  have cbd:=hbd.cell;have cbf:=hbf.cell;have fbd:=hbd.frozen;have fbf:=(hbf.far (p:=⟨bd,0,none⟩) (show bf≠bd by have:=HSZ.out;omega) (.int .i64 f.day)).frozen;have fbf1:=hbf.frozen;have cbf2:=(hbf.far (p:=⟨bd,0,none⟩) (show bf≠bd by have:=HSZ.out;omega) (.int .i64 f.day)).cell;have hnb:bf≠bd:=(by have:=HSZ.out;omega);have hnb2:bd≠bf:=fun e=>hnb e.symm
  have HBD:=jq hbd;have HBF:=jq hbf;have HRR:=jq hrr;have HBL:=jq hbl;have HLE:=jq hle;have HDF:=jq hdf;clear hbd hbf hrr hbl hle hdf bX hBx hlen
  cases f0 with
  |false=>
   rw[show QV (d0,false) f=(f.day,true) from rfl] at HNX
   gi_wp2
   exact⟨(KpX.set (E:=fun b=>b=bd\/b=bf) (p:=⟨bd,0,none⟩) (.inl rfl) _).trans (KpX.set (E:=fun b=>b=bd\/b=bf) (p:=⟨bf,0,none⟩) (.inr rfl) _),
    by rw[HNX.out];exact(HBD.out.set_ _).far (p:=⟨bf,0,none⟩) (show bd≠bf by have:=HSZ.out;omega) _,by rw[HNX.out];exact(HBF.out.far (p:=⟨bd,0,none⟩) (show bf≠bd by have:=HSZ.out;omega) _).set_ _,HRK.out _ _ _ HRR.out,
    (HBL.out.setCell (p:=⟨bd,0,none⟩) HSZ.out.2.1 _).setCell (p:=⟨bf,0,none⟩) (show w.1.size<=bf by have:=HSZ.out;omega) _,by have:=HLE.out;simpa using this,fun d hd=>by cases hd⟩
  |true=>
   by_cases hlt:f.day<d0
   ·rw[show QV (d0,true) f=(f.day,true) from if_pos (.inr hlt)] at HNX;have hd1:decide (f.day<d0)=true:=decide_eq_true hlt
    gi_wp2
    exact⟨(KpX.set (E:=fun b=>b=bd\/b=bf) (p:=⟨bd,0,none⟩) (.inl rfl) _).trans (KpX.set (E:=fun b=>b=bd\/b=bf) (p:=⟨bf,0,none⟩) (.inr rfl) _),
     by rw[HNX.out];exact(HBD.out.set_ _).far (p:=⟨bf,0,none⟩) (show bd≠bf by have:=HSZ.out;omega) _,by rw[HNX.out];exact(HBF.out.far (p:=⟨bd,0,none⟩) (show bf≠bd by have:=HSZ.out;omega) _).set_ _,HRK.out _ _ _ HRR.out,
     (HBL.out.setCell (p:=⟨bd,0,none⟩) HSZ.out.2.1 _).setCell (p:=⟨bf,0,none⟩) (show w.1.size<=bf by have:=HSZ.out;omega) _,by have:=HLE.out;simpa using this,fun d hd=>by cases hd⟩
   ·rw[show QV (d0,true) f=(d0,true) from if_neg (by simpa using hlt)] at HNX;have hd1:decide (f.day<d0)=false:=decide_eq_false hlt
    gi_wp2
    exact⟨KpX.refl _,by rw[HNX.out];exact HBD.out,by rw[HNX.out];exact HBF.out,HRR.out,HBL.out,HLE.out,HDF.out⟩
 case done=>
 rintro D zs W4 hD hS ⟨hbd,hbf,hrr,hbl,hle,_⟩ hK;rw[hS] at hbd hbf;have hrr2:=hrr;rw[HRE.out] at hrr2;obtain⟨hb2x,ha2x,hqx⟩:=hrr2
 have cq2:=hqx.cell 1 rfl;have HX12:=jq (show Box W4 bd 33 (.int .i64 (m1 xs ys).1) from hbd);have HX22:=jq (show Box W4 bf 4 (.bool (m1 xs ys).2) from hbf);have HR2:=jq hrr;have HBW2:=jq hbl;have HKD2:=jq hK;have HDL:=jq (Array.getElem?_eq_some_iff.1 hK).1;have HS4:=jq hle;have HD1:=jq (show w.1.size<=D by have:=HBW.out.size;omega);have HSEQ2:=jq (VM 5 (by omega) (fun b=>b=bd\/b=bf) 9 w.1.size b2 a2 A' A lb cb la ca ys xs w W4 HPW.out hbl hb2x ha2x HYS.out HX.out (by omega) (by omega) (fun b h=>by have:=HSZ.out;omega) (fun b hb h=>by have:=HSZ.out;omega) (Nat.le_refl _));clear hbd hbf hrr hb2x ha2x hqx hbl hK hS hD hle HSEQ cq
 gi_wp2
 rw[roundsIn_succ]
 gi_wp2
 refine QH (α:=InE ys) (F:=Fence.wide) (n:=6) rfl (by omega) (gf:=87) (lb:=#[.pointer (some ⟨a2,0,none⟩),.pointer (some ⟨b2,0,none⟩)]) rfl trivial (enters_of Tryz.func87 (by kernel_rfl) rfl)
  HSEQ2.out (fun b h=>by have:=HSZ.out;have:=HS4.out;omega) (Below.refl _ _) (fun _=>rfl)
  (fun pre W=>FiI w bd bf W4.1.size (m1 xs ys) [D] RR pre W) (fun _ _=>False) (FiI.own (xs:=ys) HBW2.out.size (fun d h=>by rw[List.mem_singleton.1 h];exact HDL.out) (HROWN.out _ (by have:=HSZ.out;have:=HS4.out;omega))) (fun _ _ _ _ h _ _=>h)
  ⟨HX12.out,HX22.out,HR2.out,HBW2.out,Nat.le_refl _,fun d h=>by rw[List.mem_singleton.1 h];exact HKD2.out⟩
  (fun pre x a' Wr=>∃Bx,FiI w bd bf W4.1.size (m1 xs ys) [D] RR pre Wr/\W4.1.size<=Bx/\BlkB Wr Bx (Qa x.1.1 x.1.2) 44/\a'={tmps:=#[.slice A la ca,.slice A' lb cb,undef,undef,.int .i64 0,.bool false,.int .i64 0,.pointer (some ⟨bd,0,none⟩),.pointer (some ⟨bf,0,none⟩),undef,.func (.func 87) #[] #[.pointer (some ⟨a2,0,none⟩),.pointer (some ⟨b2,0,none⟩)],.pointer (some ⟨Bx,0,none⟩),.slice A la ca,.int .i64 0,.bool false,.bool false,.slice A' lb cb,.int .i64 0,.bool false,.bool false,.slice A la ca,.slice A' lb cb,.func (.func 87) #[] #[.pointer (some ⟨b1,0,none⟩),.pointer (some ⟨a1,0,none⟩)],.slice A' lb cb,.slice A la ca,.func (.func 87) #[] #[.pointer (some ⟨a2,0,none⟩),.pointer (some ⟨b2,0,none⟩)],.slice (some ⟨q,0,none⟩) 2 2,.int .i64 2,.int .i64 1,.bool true,.pointer (some ⟨q,1,none⟩),.func (.func 87) #[] #[.pointer (some ⟨a2,0,none⟩),.pointer (some ⟨b2,0,none⟩)],.func (.func 87) #[] #[.pointer (some ⟨a2,0,none⟩),.pointer (some ⟨b2,0,none⟩)],.agg (Qa x.1.1 x.1.2),undef,undef,undef,undef,undef,undef,undef,undef,undef,undef,.int .i64 1,undef,undef],defers:=[]})
  (fun pre x a' _ Wr Wr' row ⟨Bx,hi,h1,h2,h3⟩ hg hr=>⟨Bx,(FiI.own (xs:=ys) HBW2.out.size (fun d h=>by rw[List.mem_singleton.1 h];exact HDL.out) (HROWN.out _ (by have:=HSZ.out;have:=HS4.out;omega))) _ _ _ _ hi hg hr,h1,Xr h2 hg hr,h3⟩) ?assign ?body ?done ?stop
 case stop=>intro D pre W' _ h;exact h.elim
 case assign=>
  rintro lr pre x Wr K hI hK;obtain⟨⟨f,v⟩,hx⟩:=x
  have hst:=fun cs (hc:cs.size=21)=>Qj Wr f v (cs:=cs) hc
  have HI:=jq hI;clear hI
  dsimp only
  gi_wp2
  exact hK _ _ (KpX.below ((Below.refl _ Wr).alloc (Nat.le_refl _) _)) ⟨Wr.1.size,OwnFrom.alloc (FiI.own (xs:=ys) HBW2.out.size (fun d h=>by rw[List.mem_singleton.1 h];exact HDL.out) (HROWN.out _ (by have:=HSZ.out;have:=HS4.out;omega))) _ HI.out,HI.out.le,heap_alloc_new Wr _,rfl⟩
 case body=>
  rintro lr pre x a' Wr ⟨Bx,⟨hbd,hbf,hrr,hbl,hle,hdf⟩,hBx,bX,rfl⟩ hlen;obtain⟨⟨f,v⟩,hx⟩:=x
  have q3:=bX.cell 3 (show(Qa f v)[3]?=some (.int .i64 f.day) from rfl);have HNX:=jq (show(Xb (pre++[⟨(f,v),hx⟩])).foldl QV (m1 xs ys)=QV ((Xb pre).foldl QV (m1 xs ys)) f by rw[Xu,List.foldl_append];rfl);generalize (Xb pre).foldl QV (m1 xs ys)=pr at*;obtain⟨d0,f0⟩:=pr
  have cbd:=hbd.cell;have cbf:=hbf.cell;have fbd:=hbd.frozen;have fbf:=(hbf.far (p:=⟨bd,0,none⟩) (show bf≠bd by have:=HSZ.out;omega) (.int .i64 f.day)).frozen;have fbf1:=hbf.frozen;have cbf2:=(hbf.far (p:=⟨bd,0,none⟩) (show bf≠bd by have:=HSZ.out;omega) (.int .i64 f.day)).cell;have hnb:bf≠bd:=(by have:=HSZ.out;omega);have hnb2:bd≠bf:=fun e=>hnb e.symm
  have HBD:=jq hbd;have HBF:=jq hbf;have HRR:=jq hrr;have HBL:=jq hbl;have HLE:=jq hle;have HDF:=jq hdf;clear hbd hbf hrr hbl hle hdf bX hBx hlen
  cases f0 with
  |false=>
   rw[show QV (d0,false) f=(f.day,true) from rfl] at HNX
   gi_wp2
   exact⟨(KpX.set (E:=fun b=>b=bd\/b=bf) (p:=⟨bd,0,none⟩) (.inl rfl) _).trans (KpX.set (E:=fun b=>b=bd\/b=bf) (p:=⟨bf,0,none⟩) (.inr rfl) _),
    by rw[HNX.out];exact(HBD.out.set_ _).far (p:=⟨bf,0,none⟩) (show bd≠bf by have:=HSZ.out;omega) _,by rw[HNX.out];exact(HBF.out.far (p:=⟨bd,0,none⟩) (show bf≠bd by have:=HSZ.out;omega) _).set_ _,HRK.out _ _ _ HRR.out,
    (HBL.out.setCell (p:=⟨bd,0,none⟩) HSZ.out.2.1 _).setCell (p:=⟨bf,0,none⟩) (show w.1.size<=bf by have:=HSZ.out;omega) _,by have:=HLE.out;simpa using this,fun d hd=>(Below.heap_setCell _ ⟨bf,0,none⟩ _ d (fun e=>by
    have h1:=HDF.out d hd;have h2:=HBF.out;unfold Box at h2;dsimp only at e;rw[<-e,h1] at h2;cases h2)).trans ((Below.heap_setCell _ ⟨bd,0,none⟩ _ d (fun e=>by
    have h1:=HDF.out d hd;have h2:=HBD.out;unfold Box at h2;dsimp only at e;rw[<-e,h1] at h2;cases h2)).trans (HDF.out d hd))⟩
  |true=>
   by_cases hlt:f.day<d0
   ·rw[show QV (d0,true) f=(f.day,true) from if_pos (.inr hlt)] at HNX;have hd1:decide (f.day<d0)=true:=decide_eq_true hlt
    gi_wp2
    exact⟨(KpX.set (E:=fun b=>b=bd\/b=bf) (p:=⟨bd,0,none⟩) (.inl rfl) _).trans (KpX.set (E:=fun b=>b=bd\/b=bf) (p:=⟨bf,0,none⟩) (.inr rfl) _),
     by rw[HNX.out];exact(HBD.out.set_ _).far (p:=⟨bf,0,none⟩) (show bd≠bf by have:=HSZ.out;omega) _,by rw[HNX.out];exact(HBF.out.far (p:=⟨bd,0,none⟩) (show bf≠bd by have:=HSZ.out;omega) _).set_ _,HRK.out _ _ _ HRR.out,
     (HBL.out.setCell (p:=⟨bd,0,none⟩) HSZ.out.2.1 _).setCell (p:=⟨bf,0,none⟩) (show w.1.size<=bf by have:=HSZ.out;omega) _,by have:=HLE.out;simpa using this,fun d hd=>(Below.heap_setCell _ ⟨bf,0,none⟩ _ d (fun e=>by
    have h1:=HDF.out d hd;have h2:=HBF.out;unfold Box at h2;dsimp only at e;rw[<-e,h1] at h2;cases h2)).trans ((Below.heap_setCell _ ⟨bd,0,none⟩ _ d (fun e=>by
    have h1:=HDF.out d hd;have h2:=HBD.out;unfold Box at h2;dsimp only at e;rw[<-e,h1] at h2;cases h2)).trans (HDF.out d hd))⟩
   ·rw[show QV (d0,true) f=(d0,true) from if_neg (by simpa using hlt)] at HNX;have hd1:decide (f.day<d0)=false:=decide_eq_false hlt
    gi_wp2
    exact⟨KpX.refl _,by rw[HNX.out];exact HBD.out,by rw[HNX.out];exact HBF.out,HRR.out,HBL.out,HLE.out,HDF.out⟩
 case done=>
 rintro D2 zs2 W' hD2 hS2 ⟨hbd,hbf,hrr,hbl,hle,hdf⟩ hK2;unfold m1 at hbd hbf;rw[hS2,<-List.foldl_append] at hbd hbf;have HKD:=jq (hdf D (List.mem_singleton.2 rfl));have HKD3:=jq hK2;have HRS2:=HRS;generalize (Qs (xs.map (·.1)) (ys.map (·.1))++Qs (ys.map (·.1)) (xs.map (·.1))).foldl QV (0,false)=pr at*;have cbd:=hbd.cell;have cbf:=hbf.cell;have HBL:=jq hbl;have HDD:=jq hD2;have HLS:=jq hle;clear hbd hbf hrr hbl hle hdf hK2 hS2 hD2 cq2
 gi_wp2
 rw[roundsIn_succ]
 gi_wp2
 refine wpIn_wide.2 ?_
 go_quiet (fail)
 rename_i nq
 gi_wp2
 have hk2:(W'.drewN nq).heap[D2]?=some (Obj.deferred (some [])):=HKD3.out;have hk1:(W'.drewN nq).heap[D]?=some (Obj.deferred (some [])):=HKD.out;have hDD:=HDD.out;have hs3:=HBW2.out.size;have hdl:=HDL.out;have hD1:=HD1.out;have hbl8:=bdN HBL.out nq;have hput:=grownBy_putObj' (W'.drewN nq) D2 (.deferred none);have hk3:((W'.drewN nq).putObj D2 (.deferred none)).heap[D]?=some (Obj.deferred (some [])):=(World.putObj_heap_other (by omega)).trans hk1;have hput2:=grownBy_putObj' ((W'.drewN nq).putObj D2 (.deferred none)) D (.deferred none);have hbl9:=hbl8.trans (Qo hput hbl8.size (Nat.le_refl _) (fun r e=>by cases e;omega));have hbl10:=hbl9.trans (Qo hput2 hbl9.size (Nat.le_refl _) (fun r e=>by cases e;omega));refine⟨by simp,.inl ⟨_,_,rfl,run_takeDeferred hk2,?_⟩⟩;refine⟨by simp,.inl ⟨_,_,rfl,run_takeDeferred hk3,?_⟩⟩;refine⟨_,results_tmp3 rfl _ _ _,?_⟩;rw[<-HPO.out,HRS.out];exact⟨rfl,hbl10⟩
end
end Go.Proofs.YtbcnkcldlealjaaGreatDoor
