/- Vch. -/
import Derived.Test.YtbcnkcldlealjaaGreatDoorQGVb25
import Derived.Test.YtbcnkcldlealjaaGreatDoorQGVb37
import Derived.Test.YtbcnkcldlealjaaGreatDoorQGVb27
set_option maxRecDepth 100000
set_option maxHeartbeats 8000000
namespace Go.Proofs.YtbcnkcldlealjaaGreatDoor
open Go.Lib renaming hid→jq
section
open Go.RowKit Go.Shelf
attribute [local go_sem] Oper.semAt_some
attribute [local go_sem ↓] Qq QA
theorem Zfb(s:List UInt8):∀u∈S1 s,u.oneCell'=true:=by
 intro u hu;simp only[S1,S,List.mem_singleton] at hu;subst hu;rfl
theorem ZdE:Zak Tryz.prog 30 9 1 16:=ZaQ Tryz.underlying30 (by kernel_rfl) (by decide) (by decide)
theorem ZcN{W:World}{q:Nat}{s:List UInt8}{T:TypeId}(h:BlkB W q #[.string ⟨s.toArray⟩] T):Sl S1 1 W W.1.size (some ⟨q,0,none⟩) 1 [s]:=by
 refine⟨rfl,fun _=>⟨q,0,rfl,h.lt,fun j z hj k u hk=> ?_⟩⟩
 cases j with
 |zero=>
  simp only[List.getElem?_cons_zero,Option.some.injEq] at hj;subst hj;rw[Nat.zero_mul,Nat.zero_add];exact h.cell k (by simpa[S1,S] using hk)
 |succ j=>simp at hj
def KsPost(res:List (List UInt8))(err:Int)(w:World):Ending->World->Prop:=fun e w'=>∃A c,e=.returned (.tuple #[.slice A res.length c,.int .i64 err])/\Own S1 1 9 w' w.1.size (.slice A res.length c) res/\Below w.1.size w w'
theorem KsPost.empty{w w':World}{e2:Int}(hb:Below w.1.size w w'):KsPost [] e2 w (.returned (.tuple #[.slice none 0 0,.int .i64 e2])) w':=⟨none,0,rfl,Own.nil,hb⟩
def k1(xs ys:List Fx):List (List UInt8):=(Qs (xs.map (·.1)) (ys.map (·.1))).map (·.key)
structure ChI {xs:List Fx} (w:World) (p0 sz:Nat) (out0:List (List UInt8)) (ds:List Nat) (pre:List (InE xs)) (W:World):Prop where
 ex:∃(A:Option Addr) (c:Nat) (ks:List (List UInt8)),Box W p0 30 (.slice A ks.length c)/\Own S1 1 9 W w.1.size (.slice A ks.length c) ks/\ks=out0++(Xb pre).map (·.key)
 bl:Below w.1.size w W
 le:sz<=W.1.size
 df:∀d∈ds,W.heap[d]?=some (.deferred (some []))
theorem ChI.own{xs:List Fx}{w:World}{p0 sz:Nat}{out0:List (List UInt8)}{ds:List Nat}(hsz:w.1.size<=sz)(hds:∀d∈ds,d<sz):OwnFrom sz (fun pre W=>ChI (xs:=xs) w p0 sz out0 ds pre W):=by
 rintro pre W W' row ⟨⟨A,c,ks,h1,h2,h3⟩,hb,hle,hd⟩ hg hr;have hbb:=Qo (B:=w.1.size) hg (by omega) hsz (fun r e=>(hr r e).1);exact⟨⟨A,c,ks,h1.turned hg hr,h2.turned hg hr,h3⟩,hb.trans hbb,Nat.le_trans hle hg.size,fun d hm=>(hg.block d (Array.getElem?_eq_some_iff.1 (hd d hm)).1 (fun e=>by have:=(hr d e.symm).1;have:=hds d hm;omega)).trans (hd d hm)⟩
theorem Zcl(A A':Option Addr)(la ca lb cb:Nat)(xs ys:List Fx)(w:World)(hp:Env w)(hx:Fxs w w.1.size A la xs)(hy:Fxs w w.1.size A' lb ys)(hl:la<=100000)(hlb:lb<=100000):
 Calls Tryz.prog 17 #[.slice A la ca,.slice A' lb cb] w (KsPost (Zd7 (xs.map (·.1)) (ys.map (·.1))).1 (Zd7 (xs.map (·.1)) (ys.map (·.1))).2 w):=by
 have HCA:=jq (fun W (hb:Below w.1.size w W)=>Xw A la ca xs W (hp.here hb) (hx.here hb) (by omega));have HCB:=jq (fun W (hb:Below w.1.size w W)=>Xw A' lb cb ys W (hp.here hb) (hy.here hb) (by omega));have hch:Zd7 (xs.map (·.1)) (ys.map (·.1))=if Yi (xs.map (·.1))≠0\/Yi (ys.map (·.1))≠0 then([],1) else(YT ((Qs (xs.map (·.1)) (ys.map (·.1))++Qs (ys.map (·.1)) (xs.map (·.1))).map (·.key)),0):=rfl
 have HX:=jq hx;have HYS:=jq hy;have HPW:=jq hp;have HLX:=jq (show xs.length<=100000 by rw[<-hx.len];exact hl);have HLY:=jq (show ys.length<=100000 by rw[<-hy.len];exact hlb)
 have HLM:=jq (show(k1 xs ys).length<=100000 by
  unfold k1;rw[List.length_map];have h:=List.length_filter_le (fun f:Fct=>decide (Qd (ys.map (·.1)) f.key≠some f)) (xs.map (·.1));rw[List.length_map] at h;have:=HLX.out
  unfold Qs;omega)
 clear hx hy hp;generalize Yi (xs.map (·.1))=za at*;generalize Yi (ys.map (·.1))=zb at*;generalize Zd7 (xs.map (·.1)) (ys.map (·.1))=res at*
 by_cases h0:za=0
 case neg=>
  rw[if_pos (.inl h0)] at hch;have HRS:=jq hch;have hz:(za !=0)=true:=by simp[h0]
  generalize hpo:KsPost res.1 res.2 w=post at*;have HPO:=jq hpo;clear hch h0 hpo;go_enter Tryz.func17,Tryz.ntmps17
  go_wp2_with fail
  refine(HCA.out w (Below.refl _ _)).mono ?_;rintro e w1 ⟨rfl,hb1⟩;go_wp2_with fail
  first|go_ret2|skip
  rw[<-HPO.out,HRS.out];exact KsPost.empty hb1
 subst h0
 by_cases h1:zb=0
 case neg=>
  rw[if_pos (.inr h1)] at hch;have HRS:=jq hch;have hz:(zb !=0)=true:=by simp[h1]
  generalize hpo:KsPost res.1 res.2 w=post at*;have HPO:=jq hpo;clear hch h1 hpo;go_enter Tryz.func17,Tryz.ntmps17
  go_wp2_with fail
  refine(HCA.out w (Below.refl _ _)).mono ?_;rintro e w1 ⟨rfl,hb1⟩;go_wp2_with fail
  refine(HCB.out _ hb1).mono ?_;rintro e w2 ⟨rfl,hb2⟩;go_wp2_with fail
  first|go_ret2|skip
  rw[<-HPO.out,HRS.out];exact KsPost.empty (hb1.trans (hb2.mono hb1.size))
 subst h1;rw[if_neg (by simp)] at hch;subst hch;generalize hpo:KsPost _ _ w=post;have HPO:=jq (show post=KsPost (YT ((Qs (xs.map (·.1)) (ys.map (·.1))++Qs (ys.map (·.1)) (xs.map (·.1))).map (·.key))) 0 w from hpo.symm);clear hpo;refine(callsIn_wide (n:=6)).1 ?_;refine callsIn_of_wp_marks Tryz.func17 rfl trivial ?_ rfl;simp only[Tryz.ntmps17,List.size_toArray,List.length_cons,List.length_nil,Nat.reduceAdd,Nat.reduceSub,Array.replicate_succ,Array.replicate_zero,List.push_toArray,List.append_toArray,List.nil_append,List.cons_append]
 gi_wp2
 refine⟨trivial,(callsIn_wide.2 (HCA.out _ (Below.refl _ _))).mono ?_⟩;rintro e w1 ⟨rfl,hb1⟩
 gi_wp2
 refine⟨trivial,(callsIn_wide.2 (HCB.out _ hb1)).mono ?_⟩;rintro e w2 ⟨rfl,hb2⟩
 gi_wp2
 refine⟨trivial,(callsIn_wide.2 (Yx A A' la ca lb cb _)).mono ?_⟩;rintro e w3 ⟨rfl,rfl⟩
 gi_wp2
 have hB:=hb1.trans (hb2.mono hb1.size);have hB1:=((((Below.refl w2.1.size w2).alloc (Nat.le_refl _) (.cells #[.slice none 0 0] 30)).alloc (by simp) (.cells #[.slice A la ca] 22)).alloc (by simp;omega) (.cells #[.slice A' lb cb] 22));have hsz3:(((w2.alloc (.cells #[.slice none 0 0] 30)).alloc (.cells #[.slice A la ca] 22)).alloc (.cells #[.slice A' lb cb] 22)).heap.size=w2.1.size+3:=by simp
 have hbx0:=((Box.new w2 30 (.slice none 0 0)).alloc (.cells #[.slice A la ca] 22)).alloc (.cells #[.slice A' lb cb] 22);have hba:=(Box.new (w2.alloc (.cells #[.slice none 0 0] 30)) 22 (.slice A la ca)).alloc (.cells #[.slice A' lb cb] 22);have hbb:=Box.new ((w2.alloc (.cells #[.slice none 0 0] 30)).alloc (.cells #[.slice A la ca] 22)) 22 (.slice A' lb cb);simp only[World.size_alloc] at hba hbb;have hbw:=hB.trans (hB1.mono hB.size);have h2s:=hB.size;generalize ((w2.alloc (.cells #[.slice none 0 0] 30)).alloc (.cells #[.slice A la ca] 22)).alloc (.cells #[.slice A' lb cb] 22)=W3 at*;generalize hbbe:w2.1.size+1+1=bb at*;generalize hbae:w2.1.size+1=ba at*;generalize hp0e:w2.1.size=p0 at*;have HBW:=jq hbw;have HBX0:=jq hbx0;have HSZ:=jq (show W3.1.size=p0+3/\w.1.size<=p0 from⟨hsz3,h2s⟩);have HSEQ:=jq (VM 5 (by omega) (fun b=>b=p0) 9 w.1.size ba bb A A' la ca lb cb xs ys w W3 HPW.out hbw hba hbb HX.out HYS.out (by omega) (by omega) (fun b h=>by omega) (fun b hb h=>by omega) (Nat.le_refl _));clear HCA HCB hb1 hb2 hB hB1 hsz3 hbx0 hba hbb hbw h2s
 refine QH (α:=InE xs) (F:=Fence.wide) (n:=6) rfl (by omega) (gf:=87) (lb:=#[.pointer (some ⟨bb,0,none⟩),.pointer (some ⟨ba,0,none⟩)]) rfl trivial (enters_of Tryz.func87 (by kernel_rfl) rfl)
  HSEQ.out (fun b h=>by have:=HSZ.out;omega) (Below.refl _ _) (fun _=>rfl)
  (fun pre W=>ChI w p0 W3.1.size [] [] pre W) (fun _ _=>False) (ChI.own HBW.out.size (fun d h=>by cases h)) (fun _ _ _ _ h _ _=>h)
  ⟨⟨none,0,[],HBX0.out,Own.nil,rfl⟩,HBW.out,Nat.le_refl _,fun d h=>by cases h⟩
  (fun pre x a' Wr=>∃Bx,ChI w p0 W3.1.size [] [] pre Wr/\W3.1.size<=Bx/\BlkB Wr Bx (Qa x.1.1 x.1.2) 44/\a'={tmps:=#[.slice A la ca,.slice A' lb cb,undef,undef,.slice none 0 0,.int .i64 0,.pointer (some ⟨p0,0,none⟩),.pointer (some ⟨Bx,0,none⟩),undef,.slice A la ca,.int .i64 0,.bool false,.bool false,.slice A' lb cb,.int .i64 0,.bool false,.bool false,.slice A la ca,.slice A' lb cb,.func (.func 87) #[] #[.pointer (some ⟨bb,0,none⟩),.pointer (some ⟨ba,0,none⟩)],.agg (Qa x.1.1 x.1.2),undef,undef,undef,undef,undef,undef,undef,undef,undef,undef,undef,undef,undef,undef,undef,undef,undef,undef],defers:=[]})
  (fun pre x a' _ Wr Wr' row ⟨Bx,hi,h1,h2,h3⟩ hg hr=>⟨Bx,ChI.own HBW.out.size (fun d h=>by cases h) _ _ _ _ hi hg hr,h1,Xr h2 hg hr,h3⟩) ?assign ?body ?done ?stop
 case stop=>intro D pre W' _ h;exact h.elim
 case assign=>
  rintro lr pre x Wr K hI hK;obtain⟨⟨f,v⟩,hx⟩:=x
  have hst:=fun cs (hc:cs.size=21)=>Qj Wr f v (cs:=cs) hc
  have HI:=jq hI;clear hI
  dsimp only
  gi_wp2
  exact hK _ _ (KpX.below ((Below.refl _ Wr).alloc (Nat.le_refl _) _)) ⟨Wr.1.size,OwnFrom.alloc (ChI.own HBW.out.size (fun d h=>by cases h)) _ HI.out,HI.out.le,heap_alloc_new Wr _,rfl⟩
 case body=>
  rintro lr pre x a' Wr ⟨Bx,⟨⟨A1,c1,ks,hbx,hown,hks⟩,hbl,hle,hdf⟩,hBx,bX,rfl⟩ hlen;obtain⟨⟨f,v⟩,hx⟩:=x
  have cb0:=hbx.cell;have fb0:=hbx.frozen;have q0:=bX.cell 0 (show(Qa f v)[0]?=some (.string ⟨f.key.toArray⟩) from rfl);have HOA:=jq (hown.alloc (.cells #[.string ⟨f.key.toArray⟩] 9));have HBX4:=jq (hbx.alloc (.cells #[.string ⟨f.key.toArray⟩] 9));have HSL:=jq (ZcN (heap_alloc_new Wr (.cells #[.string ⟨f.key.toArray⟩] 9)));have HBL4:=jq (hbl.alloc hbl.size (.cells #[.string ⟨f.key.toArray⟩] 9));have HKX4:=jq (show KpX (fun b=>b=p0) 9 w.1.size Wr (Wr.alloc (.cells #[.string ⟨f.key.toArray⟩] 9)) from KpX.below ((Below.refl _ _).alloc (Nat.le_refl _) _));have HKS:=jq hks;have HLE:=jq hle;have HDF:=jq hdf
  have HLL:=jq (show ks.length+1<=100000000000 by
   have h1:=congrArg List.length hks;have h3:(Xb pre).length=pre.length:=by unfold Xb;rw[List.length_map]
   have h4:=HLX.out;have h5:=HLY.out;have h6:=HLM.out;simp only[List.length_append,List.length_map,List.length_nil,h3] at h1;omega)
  have hne2:9≠30:=by decide
  clear hbx hown hks hbl hle hdf bX hBx hlen
  gi_wp2_with (gi_at_builtin;refine YS _ rfl (.tmp 21) (.tmp 24) _ rfl ZdE JU Zfb (base:=w.1.size) (.slice A1 ks.length c1) ks rfl HOA.out _ _ 1 1 [f.key] rfl HSL.out HLL.out HBL4.out.size ?_;intro A2 c2 w2 ho2 hg2 hat2;have hb2:=HBX4.out.grown hg2 (HOA.out.neBox HBX4.out hne2);have cb2:=hb2.cell;have fb2:=hb2.frozen)
  have hown2:∀g,(Value.slice A1 ks.length c1).ownBlock=some g->w.1.size<=g/\∃cs fz,(Wr.alloc (.cells #[.string ⟨f.key.toArray⟩] 9)).heap[g]?=some (.cells cs 9 fz):=fun g e=>by
   rcases HOA.out.2 with ⟨h0,_⟩|⟨g',cap,cur,h0,hb',hgc,_⟩
   ·rw[h0] at e;cases e
   ·rw[h0] at e
    cases e
    exact⟨hb',_,_,hgc⟩
  refine⟨?_,⟨A2,c2,ks++[f.key],?_,?_,?_⟩,?_,?_,?_⟩
  ·exact HKX4.out.trans ((KpX.grown hg2 (fun r e=>.inr (hown2 r e))).trans (KpX.set (E:=fun b=>b=p0) (p:=⟨p0,0,none⟩) rfl _))
  ·rw[List.length_append];exact hb2.set_ _
  ·rw[List.length_append];exact ho2.far (fun h=>ho2.neBox hb2 hne2 h.symm) _
  ·rw[HKS.out,Xu,List.map_append,List.append_assoc];rfl
  ·exact(HBL4.out.trans (Qo hg2 HBL4.out.size (Nat.le_refl _) (fun r e=>(hown2 r e).1))).setCell (p:=⟨p0,0,none⟩) HSZ.out.2 _
  ·have h1:=hg2.size;have h2:=HLE.out;simp at *; omega
  ·intro d h;cases h
 case done=>
 rintro D zs W' hD hS ⟨⟨A1,c1,ks,hbx,hown,hks⟩,hbl,hle,_⟩ hK;have HKS1:=jq (show ks=k1 xs ys by rw[hks,hS];rfl)
 have HEX2:=jq (show ∃(A0:Option Addr) (c0:Nat) (ks:List (List UInt8)),Box ((W'.alloc (.cells #[.slice A' lb cb] 22)).alloc (.cells #[.slice A la ca] 22)) p0 30 (.slice A0 ks.length c0)/\Own S1 1 9 ((W'.alloc (.cells #[.slice A' lb cb] 22)).alloc (.cells #[.slice A la ca] 22)) w.1.size (.slice A0 ks.length c0) ks/\ks=k1 xs ys++(Xb ([]:List (InE ys))).map (·.key) from
  ⟨A1,c1,ks,(hbx.alloc _).alloc _,(hown.alloc _).alloc _,by rw[HKS1.out];exact(List.append_nil _).symm⟩)
 have hbw2:=(hbl.alloc hbl.size (.cells #[.slice A' lb cb] 22)).alloc (by have:=hbl.size;simp;omega) (.cells #[.slice A la ca] 22);have hDlt:=(Array.getElem?_eq_some_iff.1 hK).1;have hkd2:((W'.alloc (.cells #[.slice A' lb cb] 22)).alloc (.cells #[.slice A la ca] 22)).heap[D]?=some (.deferred (some [])):=(Below.heap_alloc _ _ _ (by simp;omega)).trans ((Below.heap_alloc _ _ _ hDlt).trans hK);have hba2:=(Box.new W' 22 (.slice A' lb cb)).alloc (.cells #[.slice A la ca] 22);have hbb2:=Box.new (W'.alloc (.cells #[.slice A' lb cb] 22)) 22 (.slice A la ca);have hsz5:((W'.alloc (.cells #[.slice A' lb cb] 22)).alloc (.cells #[.slice A la ca] 22)).heap.size=W'.1.size+2:=by simp
 simp only[World.size_alloc] at hbb2;clear hbx hown hks hbl hS hK HBX0
 gi_wp2
 refine⟨trivial,(callsIn_wide.2 (Yx A' A lb cb la ca _)).mono ?_⟩;rintro e w5 ⟨rfl,rfl⟩
 gi_wp2
 generalize (W'.alloc (.cells #[.slice A' lb cb] 22)).alloc (.cells #[.slice A la ca] 22)=W5 at*;generalize hbb2e:W'.1.size+1=bb2 at*;generalize hba2e:W'.1.size=ba2 at*;have HBW2:=jq hbw2;have HKD2:=jq hkd2;have HDL:=jq (show D<W5.1.size by omega);have HD1:=jq (show w.1.size<=D by have:=HBW.out.size;omega);have HS5:=jq (show W3.1.size<=W5.1.size by omega);have HSEQ2:=jq (VM 5 (by omega) (fun b=>b=p0) 9 w.1.size ba2 bb2 A' A lb cb la ca ys xs w W5 HPW.out hbw2 hba2 hbb2 HYS.out HX.out (by omega) (by omega) (fun b h=>by have:=HSZ.out;omega) (fun b hb h=>by have:=HSZ.out;omega) (Nat.le_refl _));clear hbw2 hkd2 hba2 hbb2 hsz5 hDlt hD hle HSEQ
 refine QH (α:=InE ys) (F:=Fence.wide) (n:=6) rfl (by omega) (gf:=87) (lb:=#[.pointer (some ⟨bb2,0,none⟩),.pointer (some ⟨ba2,0,none⟩)]) rfl trivial (enters_of Tryz.func87 (by kernel_rfl) rfl)
  HSEQ2.out (fun b h=>by have:=HSZ.out;have:=HS5.out;omega) (Below.refl _ _) (fun _=>rfl)
  (fun pre W=>ChI w p0 W5.1.size (k1 xs ys) [D] pre W) (fun _ _=>False) (ChI.own HBW2.out.size (fun d h=>by rw[List.mem_singleton.1 h];exact HDL.out)) (fun _ _ _ _ h _ _=>h)
  ⟨HEX2.out,HBW2.out,Nat.le_refl _,fun d h=>by rw[List.mem_singleton.1 h];exact HKD2.out⟩
  (fun pre x a' Wr=>∃Bx,ChI w p0 W5.1.size (k1 xs ys) [D] pre Wr/\W5.1.size<=Bx/\BlkB Wr Bx (Qa x.1.1 x.1.2) 44/\a'={tmps:=#[.slice A la ca,.slice A' lb cb,undef,undef,.slice none 0 0,.int .i64 0,.pointer (some ⟨p0,0,none⟩),undef,.pointer (some ⟨Bx,0,none⟩),.slice A la ca,.int .i64 0,.bool false,.bool false,.slice A' lb cb,.int .i64 0,.bool false,.bool false,.slice A la ca,.slice A' lb cb,.func (.func 87) #[] #[.pointer (some ⟨bb,0,none⟩),.pointer (some ⟨ba,0,none⟩)],undef,undef,undef,undef,undef,undef,.slice A' lb cb,.slice A la ca,.func (.func 87) #[] #[.pointer (some ⟨bb2,0,none⟩),.pointer (some ⟨ba2,0,none⟩)],.agg (Qa x.1.1 x.1.2),undef,undef,undef,undef,undef,undef,undef,undef,undef],defers:=[]})
  (fun pre x a' _ Wr Wr' row ⟨Bx,hi,h1,h2,h3⟩ hg hr=>⟨Bx,ChI.own HBW2.out.size (fun d h=>by rw[List.mem_singleton.1 h];exact HDL.out) _ _ _ _ hi hg hr,h1,Xr h2 hg hr,h3⟩) ?assign ?body ?done ?stop
 case stop=>intro D pre W' _ h;exact h.elim
 case assign=>
  rintro lr pre x Wr K hI hK;obtain⟨⟨f,v⟩,hx⟩:=x
  have hst:=fun cs (hc:cs.size=21)=>Qj Wr f v (cs:=cs) hc
  have HI:=jq hI;clear hI
  dsimp only
  gi_wp2
  exact hK _ _ (KpX.below ((Below.refl _ Wr).alloc (Nat.le_refl _) _)) ⟨Wr.1.size,OwnFrom.alloc (ChI.own HBW2.out.size (fun d h=>by rw[List.mem_singleton.1 h];exact HDL.out)) _ HI.out,HI.out.le,heap_alloc_new Wr _,rfl⟩
 case body=>
  rintro lr pre x a' Wr ⟨Bx,⟨⟨A1,c1,ks,hbx,hown,hks⟩,hbl,hle,hdf⟩,hBx,bX,rfl⟩ hlen;obtain⟨⟨f,v⟩,hx⟩:=x
  have cb0:=hbx.cell;have fb0:=hbx.frozen;have q0:=bX.cell 0 (show(Qa f v)[0]?=some (.string ⟨f.key.toArray⟩) from rfl);have HOA:=jq (hown.alloc (.cells #[.string ⟨f.key.toArray⟩] 9));have HBX4:=jq (hbx.alloc (.cells #[.string ⟨f.key.toArray⟩] 9));have HSL:=jq (ZcN (heap_alloc_new Wr (.cells #[.string ⟨f.key.toArray⟩] 9)));have HBL4:=jq (hbl.alloc hbl.size (.cells #[.string ⟨f.key.toArray⟩] 9));have HKX4:=jq (show KpX (fun b=>b=p0) 9 w.1.size Wr (Wr.alloc (.cells #[.string ⟨f.key.toArray⟩] 9)) from KpX.below ((Below.refl _ _).alloc (Nat.le_refl _) _));have HKS:=jq hks;have HLE:=jq hle;have HDF:=jq hdf
  have HLL:=jq (show ks.length+1<=100000000000 by
   have h1:=congrArg List.length hks;have h3:(Xb pre).length=pre.length:=by unfold Xb;rw[List.length_map]
   have h4:=HLX.out;have h5:=HLY.out;have h6:=HLM.out;simp only[List.length_append,List.length_map,h3] at h1;omega)
  have hne2:9≠30:=by decide
  clear hbx hown hks hbl hle hdf bX hBx hlen
  gi_wp2_with (gi_at_builtin;refine YS _ rfl (.tmp 30) (.tmp 33) _ rfl ZdE JU Zfb (base:=w.1.size) (.slice A1 ks.length c1) ks rfl HOA.out _ _ 1 1 [f.key] rfl HSL.out HLL.out HBL4.out.size ?_;intro A2 c2 w2 ho2 hg2 hat2;have hb2:=HBX4.out.grown hg2 (HOA.out.neBox HBX4.out hne2);have cb2:=hb2.cell;have fb2:=hb2.frozen)
  have hown2:∀g,(Value.slice A1 ks.length c1).ownBlock=some g->w.1.size<=g/\∃cs fz,(Wr.alloc (.cells #[.string ⟨f.key.toArray⟩] 9)).heap[g]?=some (.cells cs 9 fz):=fun g e=>by
   rcases HOA.out.2 with ⟨h0,_⟩|⟨g',cap,cur,h0,hb',hgc,_⟩
   ·rw[h0] at e;cases e
   ·rw[h0] at e
    cases e
    exact⟨hb',_,_,hgc⟩
  refine⟨?_,⟨A2,c2,ks++[f.key],?_,?_,?_⟩,?_,?_,?_⟩
  ·exact HKX4.out.trans ((KpX.grown hg2 (fun r e=>.inr (hown2 r e))).trans (KpX.set (E:=fun b=>b=p0) (p:=⟨p0,0,none⟩) rfl _))
  ·rw[List.length_append];exact hb2.set_ _
  ·rw[List.length_append];exact ho2.far (fun h=>ho2.neBox hb2 hne2 h.symm) _
  ·rw[HKS.out,Xu,List.map_append,List.append_assoc];rfl
  ·exact(HBL4.out.trans (Qo hg2 HBL4.out.size (Nat.le_refl _) (fun r e=>(hown2 r e).1))).setCell (p:=⟨p0,0,none⟩) HSZ.out.2 _
  ·have h1:=hg2.size;have h2:=HLE.out;simp at *; omega
  ·intro d hd;have h0:=HDF.out d hd;have hlt:d<Wr.1.size:=(Array.getElem?_eq_some_iff.1 h0).1;have h1:(Wr.alloc (.cells #[.string ⟨f.key.toArray⟩] 9)).heap[d]?=some (.deferred (some [])):=(Below.heap_alloc _ _ _ hlt).trans h0
   have h2:=(hg2.block d (by simp;omega) (fun e=>by
    obtain⟨_,cs,fz,h⟩:=hown2 d e.symm
    rw[h1] at h
    cases h)).trans h1
   exact(Below.heap_setCell w2 ⟨p0,0,none⟩ _ d (fun e=>by
    have h3:=HBX4.out;unfold Box at h3
    dsimp only at e
    rw[<-e,h1] at h3
    cases h3)).trans h2
 case done=>
 rintro D2 zs2 W' hD2 hS2 ⟨⟨A1,c1,ks,hbx,hown,hks⟩,hbl,hle,hdf⟩ hK2;have HKD:=jq (hdf D (List.mem_singleton.2 rfl));have HKD2:=jq hK2;have HKS2:=jq (show ks=(Qs (xs.map (·.1)) (ys.map (·.1))++Qs (ys.map (·.1)) (xs.map (·.1))).map (·.key) by rw[hks,hS2,List.map_append];rfl);rw[<-HKS2.out] at HPO
 have hkl:ks.length<=1000000:=by
  have h1:=congrArg List.length hks;have h6:=HLM.out;have h7:=List.length_filter_le (fun f:Fct=>decide (Qd (xs.map (·.1)) f.key≠some f)) (ys.map (·.1));have h8:=HLY.out;have h9:(Xb zs2).length<=(ys.map (·.1)).length:=by rw[hS2];exact h7
  simp only[List.length_append,List.length_map] at h1 h9;omega
 have HSO:=jq (ZdC w.1.size A1 c1 ks W' hown (by omega));have hne2:9≠30:=by decide
 have cb0:=hbx.cell;have HBX:=jq hbx;have HOW:=jq hown;have HBL:=jq hbl;have HDD:=jq hD2;have HLS:=jq hle;clear hbx hown hks hbl hle hdf hK2 hS2 hD2
 gi_wp2
 refine⟨trivial,(callsIn_wide.2 HSO.out).mono ?_⟩;rintro e W6 ⟨rfl,ho6,hg6⟩;have hb6:=HBX.out.grown hg6 (HOW.out.neBox HBX.out hne2);have cb6:=hb6.cell;have HCO:=jq (ZdD w.1.size A1 c1 (XA ks) W6 ho6 (by rw[VN];omega));rw[Zjg,VN] at HCO
 gi_wp2
 refine⟨trivial,(callsIn_wide.2 HCO.out).mono ?_⟩;rintro e W7 ⟨rfl,ho7,hg7⟩
 gi_wp2
 have hob:∀g,(Value.slice A1 ks.length c1).ownBlock=some g->w.1.size<=g/\(∃cs fz,W'.heap[g]?=some (.cells cs 9 fz)):=fun g e=>by
  rcases HOW.out.2 with ⟨h0,_⟩|⟨g',cap,cur,h0,hb,hgc,_⟩
  ·rw[h0] at e;cases e
  ·rw[h0] at e
   cases e
   exact⟨hb,_,_,hgc⟩
 have hkeep:∀d,W'.heap[d]?=some (Obj.deferred (some []))->W7.heap[d]?=some (Obj.deferred (some [])):=fun d hd=>by
  have hne:some d≠(Value.slice A1 ks.length c1).ownBlock:=fun e=>by
   obtain⟨_,cs,fz,h⟩:=hob d e.symm
   rw[hd] at h
   cases h
  have h6:=(hg6.block d (Array.getElem?_eq_some_iff.1 hd).1 hne).trans hd;exact(hg7.block d (Array.getElem?_eq_some_iff.1 h6).1 hne).trans h6
 have hk1:=hkeep D HKD.out;have hk2:=hkeep D2 HKD2.out;have hbl7:=(HBL.out.trans (Qo hg6 HBL.out.size (Nat.le_refl _) (fun r e=>(hob r e).1)));have hbl8:=hbl7.trans (Qo hg7 hbl7.size (Nat.le_refl _) (fun r e=>(hob r e).1));have hput:=grownBy_putObj' W7 D2 (.deferred none);have hDD:=HDD.out;have hs3:=HBW2.out.size;have hdl:=HDL.out;have hk3:(W7.putObj D2 (.deferred none)).heap[D]?=some (.deferred (some [])):=(World.putObj_heap_other (by omega)).trans hk1;have hput2:=grownBy_putObj' (W7.putObj D2 (.deferred none)) D (.deferred none);have hD1:=HD1.out;have hbl9:=hbl8.trans (Qo hput hbl8.size (Nat.le_refl _) (fun r e=>by cases e;omega));have hbl10:=hbl9.trans (Qo hput2 hbl9.size (Nat.le_refl _) (fun r e=>by cases e;omega));have ho9:=(ho7.turned hput (B:=w.1.size) (fun r e=>by cases e;exact⟨by omega,_,hk2,rfl⟩)).turned hput2 (B:=w.1.size) (fun r e=>by cases e;exact⟨by omega,_,hk3,rfl⟩);refine⟨by simp,.inl ⟨_,_,rfl,run_takeDeferred hk2,?_⟩⟩;refine⟨by simp,.inl ⟨_,_,rfl,run_takeDeferred hk3,?_⟩⟩;refine⟨_,results_tmp2 rfl _ _ _,?_⟩;rw[HPO.out];exact⟨A1,c1,rfl,ho9,hbl10⟩
end
end Go.Proofs.YtbcnkcldlealjaaGreatDoor
