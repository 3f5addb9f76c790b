/- Gc, Gd, Fp1, Fp2. -/
import Derived.Test.YtokjnjdbnabchaaGreatDoorQGEp7
import Derived.RangeFuncBound
import Derived.RangeFuncLeaves
import Derived.Shelf.Abstract
import Derived.Shelf.RegionOpen
import Derived.OwnWalkIn
import Derived.TacticsInMore
import Derived.LoopNIn
import Derived.LoopIn
import Derived.Stop.RegionWithIn
set_option maxRecDepth 100000
set_option maxHeartbeats 1000000
namespace Go.Proofs.YtokjnjdbnabchaaGreatDoor
open Go.Lib renaming hid→jq
open Go.RowKit Go.Shelf
section
attribute [local go_sem] Oper.semAt_some
theorem Gr.unique{W:World}{B B':Nat}{A:Option Addr}{n:Nat}{xs ys:List Nat}(h:Gr W B A n xs)(h':Gr W B' A n ys):xs=ys:=by
 apply List.ext_getElem?
 intro i
 by_cases hi:i<n
 ·obtain⟨b,off,x,hA,_,hx,hc⟩:=h.grp hi
  obtain⟨b',off',y,hA',_,hy,hc'⟩:=h'.grp hi
  rw[hA] at hA';injection hA' with e
  injection e with e1 e2;subst e1;subst e2
  rw[hc] at hc';injection hc' with e
  injection e with _ e;rw[hx,hy]
  congr 1
  omega
 ·rw[List.getElem?_eq_none (by rw[<-h.1];omega),List.getElem?_eq_none (by rw[<-h'.1];omega)]
noncomputable def Zfo(W:World)(p:Nat):Nat:=Classical.epsilon fun v=>∃A n c ys,Box W p 104 (.slice A n c)/\Gr W W.1.size A n ys/\Mag ys v
theorem Zcm{W:World}{p n c v:Nat}{A:Option Addr}{ys:List Nat}(hb:Box W p 104 (.slice A n c))(hg:Gr W W.1.size A n ys)(hm:Mag ys v):Zfo W p=v:=by
 have h:=Classical.epsilon_spec (p:=fun v=>∃A n c ys,Box W p 104 (.slice A n c)/\Gr W W.1.size A n ys/\Mag ys v) ⟨v,A,n,c,ys,hb,hg,hm⟩;obtain⟨A',n',c',ys',hb',hg',hm'⟩:=h
 unfold Box at hb hb';rw[hb] at hb';simp only[Option.some.injEq,Obj.cells.injEq,and_true,Array.mk.injEq,List.cons.injEq,Value.slice.injEq] at hb';obtain⟨rfl,rfl,rfl⟩:=hb'
 have:=hg.unique hg'
 subst this;unfold Zfo;rw[<-hm'.val,hm.val]
theorem Gr.kp2{W W':World}{p q n:Nat}{A:Option Addr}{xs:List Nat}(h:Gr W W.1.size A n xs)(hk:Kp2 p q W W')(hp:∀o x,W.cell? ⟨p,o,none⟩≠some (.int .u64 x))(hq:∀o x,W.cell? ⟨q,o,none⟩≠some (.int .u64 x)):Gr W' W'.1.size A n xs:=by
 refine Sl.more (B:=W.1.size) ⟨h.1,fun hn=> ?_⟩ hk.size;obtain⟨b,off,e,hb,hc⟩:=h.2 hn
 obtain⟨b',off',x0,e',_,_,hc0⟩:=h.grp (i:=0) hn
 rw[e] at e';injection e' with e'
 injection e' with e1 e2
 subst e1;subst e2
 refine⟨b,off,e,hb,fun i x hi j u hj=> ?_⟩;have h1:b≠p:=fun e=>hp _ _ (e▸hc0)
 have h2:b≠q:=fun e=>hq _ _ (e▸hc0)
 have:=hk.2 b hb h1 h2
 have hcell:W'.cell? ⟨b,off+i*1+j,none⟩=W.cell? ⟨b,off+i*1+j,none⟩:=World.cell?_of_block this;rw[hcell];exact hc i x hi j u hj
theorem Box.notU{W:World}{p:Nat}{t:TypeId}{A:Option Addr}{n c:Nat}(h:Box W p t (.slice A n c))(o:Nat)(x:Int):W.cell? ⟨p,o,none⟩≠some (.int .u64 x):=by
 intro h2;have:=cell_of_row W p o #[.slice A n c] t (0,0) h
 rw[this] at h2
 cases o with
 |zero=>simp at h2
 |succ o=>simp at h2
theorem VQ{W:World}{l:Nat}{r:Loop}(h:W.heap[l]?=some (.loop r))(o:Nat)(x:Int):W.cell? ⟨l,o,none⟩≠some (.int .u64 x):=by
 intro h2;unfold World.cell? at h2
 simp[h] at h2
structure EuSt (G pm pn:Nat) (A A':Option Addr) (n c n' c':Nat) (xs ys:List Nat) (u v:Nat) (W:World):Prop where
 bm:Box W pm 104 (.slice A n c)
 bn:Box W pn 104 (.slice A' n' c')
 gm:Gr W W.1.size A n xs
 gn:Gr W W.1.size A' n' ys
 mm:Mag xs u
 mn:Mag ys v
 gcd:Nat.gcd u v=G
 lm:n<=100000
 ln:n'<=100000
 cm:n<=c
 cn:n'<=c'
def EuT(G:Nat)(s:Value)(W:World):Prop:=∃A n c zs,s=.slice A n c/\Gr W W.1.size A n zs/\Mag zs G/\n<=c/\n<=100000
theorem EuSt.kp2{G pm pn p q:Nat}{A A':Option Addr}{n c n' c':Nat}{xs ys:List Nat}{u v:Nat}{W W':World}(h:EuSt G pm pn A A' n c n' c' xs ys u v W)(hk:Kp2 p q W W')(hp:∀o x,W.cell? ⟨p,o,none⟩≠some (.int .u64 x))(hq:∀o x,W.cell? ⟨q,o,none⟩≠some (.int .u64 x))(h1:pm≠p)(h2:pm≠q)(h3:pn≠p)(h4:pn≠q):EuSt G pm pn A A' n c n' c' xs ys u v W':=
 ⟨hk.box h.bm h1 h2,hk.box h.bn h3 h4,h.gm.kp2 hk hp hq,h.gn.kp2 hk hp hq,h.mm,h.mn,h.gcd,h.lm,h.ln,h.cm,h.cn⟩
theorem EuSt.here{G pm pn:Nat}{A A':Option Addr}{n c n' c':Nat}{xs ys:List Nat}{u v:Nat}{W W':World}(h:EuSt G pm pn A A' n c n' c' xs ys u v W)(hb:Below W.1.size W W'):EuSt G pm pn A A' n c n' c' xs ys u v W':=
 ⟨h.bm.here hb,h.bn.here hb,h.gm.here hb,h.gn.here hb,h.mm,h.mn,h.gcd,h.lm,h.ln,h.cm,h.cn⟩
theorem Zes(k:Nat)(hk:1<=k)(G l po pm pn:Nat)(J:Value->World->Prop)(h12:pm≠pn)(h1o:pm≠po)(h1l:pm≠l)(h2o:pn≠po)(h2l:pn≠l)
 (hJi:∀s A B,J s A->Kp2 pm pn A B->J s B) (hJl:∀s A,J s A->∃r,A.heap[l]?=some (.loop r)) (hJb:∀s A,J s A->∃t v,Box A po t v/\(∃B m c,v=.slice B m c))
 (hY:∀s B m c y W1,J s W1->YieldAt Fence.wide (k-1) Tryz.prog l #[.slice B m c,y] W1 fun e W'=>e=.returned (.bool true)/\J (.slice B m c) W'/\Kp2 po l W1 W')
 (s0:Value) (W:World) (h0:J s0 W) (A A':Option Addr) (n c n' c':Nat) (xs ys:List Nat) (u v:Nat) (hE:EuSt G pm pn A A' n c n' c' xs ys u v W):
 CallsIn Fence.wide k Tryz.prog 265 #[.func (.yield l) #[] #[],.pointer (some ⟨pm,0,none⟩),.pointer (some ⟨pn,0,none⟩)] W fun e W'=>(∃v,e=.returned v)/\∃s,J s W'/\EuT G s W':=by
 have HY:=jq hY;have HJI:=jq hJi;have HJL:=jq hJl;have HJB:=jq hJb;clear hY hJi hJl hJb;refine callsIn_of_wp Tryz.func265 rfl trivial ?_ rfl;simp only[Tryz.ntmps265,List.size_toArray,List.length_cons,List.length_nil,Nat.reduceAdd,Nat.reduceSub,Array.replicate_succ,Array.replicate_zero,List.push_toArray,List.append_toArray,List.nil_append,List.cons_append]
 gi_wp2
 gi_loopw [5] (fun _ wr=>∃(s:Value) (A A':Option Addr) (n c n' c':Nat) (xs ys:List Nat) (u v:Nat),Hid (J s wr)/\Hid (EuSt G pm pn A A' n c n' c' xs ys u v wr)) (fun _ wr=>Zfo wr pn)
 case atStart=>exact⟨s0,A,A',n,c,n',c',xs,ys,u,v,h0,hE⟩
 case round=>
  clear h0 hE;obtain⟨s,A,A',n,c,n',c',xs,ys,u,v,HJ,HE⟩:=hrel
  have c1:=HE.out.bm.cell;have c2:=HE.out.bn.cell;obtain⟨fn,tmps,assign,body,hy,hR⟩:=HY.out s A n c (.slice A' n' c') wr HJ.out
  have hR2:=hR.mono (R':=fun e W3=>e=.returned (.bool true)/\Hid (J (.slice A n c) W3/\EuSt G pm pn A A' n c n' c' xs ys u v W3)) (fun e W3 h=>by
   obtain⟨he,hj,hkp⟩:=h
   obtain⟨t,vv,hbx,B,m,cc,rfl⟩:=HJB.out _ _ HJ.out
   obtain⟨r,hl⟩:=HJL.out _ _ HJ.out
   exact⟨he,hj,HE.out.kp2 hkp (fun o x=>hbx.notU o x) (fun o x=>VQ hl o x) h1o h1l h2o h2l⟩)
  have HR:=jq hR2;clear hR hR2;have HMA:=jq (Zcm HE.out.bn HE.out.gn HE.out.mn)
  gi_wp2_with fail
  refine HR.out.mono ?_;rintro e W3 ⟨rfl,HQ⟩;have HJ3:=jq HQ.out.1;have HE3:=jq HQ.out.2;clear HQ hy HR c1 c2 HJ HE;have c1:=HE3.out.bm.cell;have c2:=HE3.out.bn.cell
  by_cases hv:v=0
  ·have hn0:n'=0:=by rw[HE3.out.gn.1,HE3.out.mn.nil_iff.2 hv];rfl
   have hnd:decide (0<n')=false:=by simp[hn0]
   have HG:=jq (show u=G by have:=HE3.out.gcd;rw[hv,Nat.gcd_zero_right] at this;exact this);clear hn0
   gi_wp2_with fail
   go_end0
   exact⟨⟨_,rfl⟩,_,HJ3.out,A,n,c,xs,rfl,HE3.out.gm,by rw[<-HG.out];exact HE3.out.mm,HE3.out.cm,HE3.out.lm⟩
  ·have hn1:0<n':=by
    rcases Nat.eq_zero_or_pos n' with h|h
    ·exact absurd (HE3.out.mn.nil_iff.1 (List.eq_nil_of_length_eq_zero (by rw[<-HE3.out.gn.1];exact h))) hv
    ·exact h
   have hnd:decide (0<n')=true:=by simpa using hn1
   have HDV:=jq (JQ A A' n n' c c' xs ys u v W3 HE3.out.gm HE3.out.gn HE3.out.mm HE3.out.mn HE3.out.lm HE3.out.ln HE3.out.cm (by omega));have f1:=HE3.out.bm.frozen;have f2:=HE3.out.bn.frozen
   gi_wp2_with fail
   refine⟨trivial,?_⟩;refine(callsIn_wide.2 HDV.out).mono ?_;rintro e w4 ⟨A1,n1,c1',qs,A2,n2,c2',rs,rfl,hg1,hc1,mg1,hg2,hc2,mg2,hb4⟩;have HE4:=jq (HE3.out.here hb4);have HG2:=jq hg2;have HM2:=jq mg2;have HJ4:=jq (HJI.out _ _ _ HJ3.out (Kp2.below (p:=pm) (q:=pn) hb4));clear hg1 mg1 hg2 mg2 c1 c2 f1 f2 hc1 HDV;have c1:=HE4.out.bm.cell;have c2:=HE4.out.bn.cell;have f1:=HE4.out.bm.frozen;have f2:=HE4.out.bn.frozen
   gi_wp2_with fail
   have hW:Kp2 pm pn w4 ((w4.setCell ⟨pm,0,none⟩ (.slice A' n' c')).setCell ⟨pn,0,none⟩ (.slice A2 n2 c2')):=((Kp2.refl pm pn w4).set1 0 _).set2 0 _
   have hE5:EuSt G pm pn A' A2 n' c' n2 c2' ys rs v (u%v) ((w4.setCell ⟨pm,0,none⟩ (.slice A' n' c')).setCell ⟨pn,0,none⟩ (.slice A2 n2 c2')):=by
    refine⟨(HE4.out.bm.set_ _).far (by exact h12) _,(HE4.out.bn.far (by exact fun e=>h12 e.symm) _).set_ _,HE4.out.gn.kp2 hW (fun o x=>HE4.out.bm.notU o x) (fun o x=>HE4.out.bn.notU o x),HG2.out.kp2 hW (fun o x=>HE4.out.bm.notU o x) (fun o x=>HE4.out.bn.notU o x),HE4.out.mn,HM2.out,?_,HE4.out.ln,?_,HE4.out.cn,hc2⟩
    ·rw[<-HE4.out.gcd,Nat.gcd_comm v,<-Nat.gcd_rec,Nat.gcd_comm]
    ·rw[HG2.out.1];refine Nat.le_trans (HM2.out.len (k:=n') ?_) HE4.out.ln;have h1:=Nat.mod_lt u (show 0<v by omega);have h2:=XP HE4.out.mn.gs;rw[HE4.out.mn.val,<-HE4.out.gn.1] at h2;omega
   go_roundw
   case rel=>exact⟨.slice A n c,A',A2,n',c',n2,c2',ys,rs,v,u%v,HJI.out _ _ _ HJ4.out hW,hE5⟩
   case measure=>
    rw[HMA.out,Zcm hE5.bn hE5.gn hE5.mn];exact Nat.mod_lt _ (by omega)
end
section
attribute [local go_sem] Oper.semAt_some
theorem Zet(A A':Option Addr)(n c n' c':Nat)(w:World):Calls Tryz.prog 198 #[.slice A n c,.slice A' n' c'] w fun e w'=>e=.returned (.func (.func 265) #[] #[.pointer (some ⟨w.1.size,0,none⟩),.pointer (some ⟨w.1.size+1,0,none⟩)])/\(w.alloc (.cells #[.slice A n c] 104)).alloc (.cells #[.slice A' n' c'] 104)=w':=by
 go_enter Tryz.func198,Tryz.ntmps198
 go_wp2
 go_ret
 exact⟨rfl,rfl⟩
theorem ZdP(W:World)(b:Bool)(A:Option Addr)(n c:Nat):(Instr.field 106 (.agg #[.bool b,.slice A n c]) 1).run Tryz.prog W=.ok (.slice A n c) W:=by
 kernel_rfl
theorem Zhi(a b:List UInt8):Nat.gcd (Qg (Qf a).1) (Qg (Qf b).1)=Int.gcd (val a) (val b):=by
 unfold Int.gcd val
 split<;>split<;>simp
theorem Zhj(a b:List UInt8)(w:World)(hp:Pow w)(ha:a.length<=100000)(hb:b.length<=100000):Calls Tryz.prog 143 #[S a,S b] w (QH (Qb (Int.gcd (val a) (val b):Nat)) w):=by
 have HRa:=jq (fun W=>QF a W (by omega));have HRb:=jq (fun W=>QF b W (by omega));obtain⟨K,hK⟩:∃K:Nat,K=100000:=⟨_,rfl⟩
 have hva:=Qr (show a.length<=K by omega);have hvb:=Qr (show b.length<=K by omega);have HK:=jq hK;clear hK;have HPO:=jq (show QH (Qb (Int.gcd (val a) (val b):Nat)) w=fun e w'=>e=.returned (S (Qb (Int.gcd (val a) (val b):Nat)))/\Below w.1.size w w' from rfl);have HGV:=jq (Zhi a b);unfold QW at HRa HRb;have HVA:=jq hva;have HVB:=jq hvb;have HP:=jq hp;generalize QH (Qb (Int.gcd (val a) (val b):Nat)) w=post at*;generalize Int.gcd (val a) (val b)=G at*;generalize (Qf a).2=na at*;generalize (Qf b).2=nb at*;generalize Qg (Qf a).1=u at*;generalize Qg (Qf b).1=v at*;clear ha hb hva hvb hp;unfold S at*
 refine(callsIn_wide (n:=5)).1 ?_;refine callsIn_of_wp_marks Tryz.func143 rfl trivial ?_ rfl;simp only[Tryz.ntmps143,List.size_toArray,List.length_cons,List.length_nil,Nat.reduceAdd,Nat.reduceSub,Array.replicate_succ,Array.replicate_zero,List.push_toArray,List.append_toArray,List.nil_append,List.cons_append]
 gi_wp2_with fail
 refine⟨trivial,?_⟩;have bO0:=Box.new w 104 (.slice none 0 0);have hb0:Below w.1.size w (w.alloc (.cells #[.slice none 0 0] 104)):=(Below.refl _ _).alloc (Nat.le_refl _) _;generalize w.alloc _=W0 at*;refine(callsIn_wide.2 (HRa.out W0)).mono ?_;rintro e w1 ⟨A1,n1,c1,xs,rfl,ho1,mg1,hb1⟩;have HO1:=jq ho1;have HM1:=jq mg1;clear ho1 mg1 HRa;have hf1:=ZdP w1 na A1 n1 c1
 gi_wp2_with fail
 refine⟨trivial,?_⟩;refine(callsIn_wide.2 (HRb.out w1)).mono ?_;rintro e w2 ⟨A2,n2,c2,ys,rfl,ho2,mg2,hb2⟩;have HO2:=jq ho2;have HM2:=jq mg2;clear ho2 mg2 HRb hf1;have hf2:=ZdP w2 nb A2 n2 c2;have HX1:=jq ((HO1.out.below hb2).sl Qc);have HX2:=jq (HO2.out.sl Qc);have HL1:=jq (show n1<=K by rw[HX1.out.1];exact HM1.out.len HVA.out);have HL2:=jq (show n2<=K by rw[HX2.out.1];exact HM2.out.len HVB.out);have hcap1:n1<=c1:=by obtain⟨h1,h2,_⟩:=HO1.out.facts;omega
 have hcap2:n2<=c2:=by obtain⟨h1,h2,_⟩:=HO2.out.facts;omega
 have bO2:=(bO0.here hb1).here hb2;have hb02:=hb0.trans ((hb1.trans (hb2.mono hb1.size)).mono hb0.size);have hlt:w.1.size<w2.1.size:=bO2.lt
 gi_wp2_with fail
 refine⟨trivial,?_⟩;refine(callsIn_wide.2 (Zet A1 A2 n1 c1 n2 c2 w2)).mono ?_;rintro e w3 ⟨rfl,rfl⟩;have hbA:Below w2.1.size w2 ((w2.alloc (.cells #[.slice A1 n1 c1] 104)).alloc (.cells #[.slice A2 n2 c2] 104)):=((Below.refl _ _).alloc (Nat.le_refl _) _).alloc (by simp) _;have bm:Box ((w2.alloc (.cells #[.slice A1 n1 c1] 104)).alloc (.cells #[.slice A2 n2 c2] 104)) w2.1.size 104 (.slice A1 n1 c1):=(Box.new w2 _ _).alloc _
 have bn:Box ((w2.alloc (.cells #[.slice A1 n1 c1] 104)).alloc (.cells #[.slice A2 n2 c2] 104)) (w2.1.size+1) 104 (.slice A2 n2 c2):=by
  have:=Box.new (w2.alloc (.cells #[.slice A1 n1 c1] 104)) 104 (.slice A2 n2 c2)
  simpa using this
 have bO3:=bO2.here hbA;have HE:=jq (show EuSt G w2.1.size (w2.1.size+1) A1 A2 n1 c1 n2 c2 xs ys u v _ from⟨bm,bn,HX1.out.here hbA,HX2.out.here hbA,HM1.out,HM2.out,HGV.out,by have:=HL1.out;have:=HK.out;omega,by have:=HL2.out;have:=HK.out;omega,hcap1,hcap2⟩);have hb03:=hb02.trans (hbA.mono hb02.size);have hsz3:w2.1.size+2=((w2.alloc (.cells #[.slice A1 n1 c1] 104)).alloc (.cells #[.slice A2 n2 c2] 104)).heap.size:=by simp
 clear bm bn hbA HX1 HX2 HO1 HO2 hb1 hb2 bO0 bO2 hb0 hb02
 gi_wp2_with fail
 generalize (w2.alloc (.cells #[.slice A1 n1 c1] 104)).alloc (.cells #[.slice A2 n2 c2] 104)=W3 at*;have HSZ:=jq hsz3;clear hsz3 hf2;have h3:=HSZ.out
 refine YZ (F:=Fence.wide) (n:=5) rfl (by omega) (gf:=265) (lb:=#[.pointer (some ⟨w2.1.size,0,none⟩),.pointer (some ⟨w2.1.size+1,0,none⟩)]) rfl trivial (enters_of Tryz.func265 (by kernel_rfl) rfl)
  w.1.size (by omega) (Kp2 w2.1.size (w2.1.size+1)) (EuT G) (fun A B h b hb1 hb2=>h.2 b hb2 (by omega) (by omega)) (.slice none 0 0) ?hseq rfl
  (fun s W=>Box W w.1.size 104 s/\(∃B m c,s=.slice B m c)/\Below w.1.size w W)
  (fun s A B ⟨h1,h2,h3⟩ hk=>⟨hk.box h1 (by omega) (by omega),h2,hk.under h3 (by have:=h3.size;omega) (by omega) (by omega)⟩)
  (fun s A ⟨h1,h2,_⟩=>⟨_,s,h1,h2⟩)
  (fun s A B l hl ⟨h1,h2,h3⟩ hk=>⟨hk.box h1 (by omega) (by omega),h2,hk.under h3 (by have:=h3.size;omega) (by omega) (by omega)⟩)
  ⟨bO3,⟨_,_,_,rfl⟩,hb03⟩
  (fun x y=>{tmps:=#[.string ⟨a.toArray⟩,.string ⟨b.toArray⟩,undef,undef,.string ⟨#[]⟩,.pointer (some ⟨w.1.size,0,none⟩),x,.string ⟨a.toArray⟩,.agg #[.bool na,.slice A1 n1 c1],.slice A1 n1 c1,.string ⟨b.toArray⟩,.agg #[.bool nb,.slice A2 n2 c2],.slice A2 n2 c2,.func (.func 265) #[] #[.pointer (some ⟨w2.1.size,0,none⟩),.pointer (some ⟨w2.1.size+1,0,none⟩)],x,y,undef,undef,undef,undef],defers:=[]})
  ?assign ?body ?done
 case hseq=>
  intro l J W hl hbW hJi hJl hJb hY h0;have hE:=HE.out.here hbW;exact Zes 4 (by omega) G l w.1.size w2.1.size (w2.1.size+1) J (by omega) (by omega) (by omega) (by omega) (by omega) hJi hJl hJb hY (.slice none 0 0) W h0 A1 A2 n1 c1 n2 c2 xs ys u v hE
 case assign=>
  intro l x y W K hK
  gi_wp2
  exact hK
 case body=>
  rintro l s B m c y W hl ⟨hbx,hs,hbl⟩;have c0:=hbx.cell;have f0:=hbx.frozen
  gi_wp2
  exact⟨(Kp2.refl w.1.size w.1.size W).set1 0 _,hbx.set_ _,hbl.setCell (p:=⟨w.1.size,0,none⟩) (Nat.le_refl _) _⟩
 case done=>
  rintro D s W W0 hD ⟨hbx,hs,hbl⟩ ⟨A5,n5,c5,zs,rfl,hg5,mg5,hc5,hn5⟩ hk ⟨r,hr⟩ hK;have c0:=hbx.cell;have hg:=hg5.kp2 hk (fun o x=>VQ hr o x) (fun o x=>VQ hr o x);have HTX:=jq (XD false A5 n5 c5 zs W hg mg5.gs hc5 (by omega) (HP.out.here hbl));rw[mg5.val,Ym,show sv false G=(G:Int) from rfl] at HTX;unfold S at HTX;clear hg hg5 mg5 h3
  gi_wp2_with fail
  refine⟨trivial,?_⟩;refine(callsIn_wide.2 HTX.out).mono ?_;rintro e w6 ⟨rfl,hb6⟩;have hK6:w6.heap[D]?=some (.deferred (some [])):=(hb6.block D (Array.getElem?_eq_some_iff.1 hK).1).trans hK;have hb06:=hbl.trans (hb6.mono hbl.size)
  gi_wp2
  refine⟨by simp,.inl ⟨_,_,rfl,run_takeDeferred hK6,?_⟩⟩;refine⟨_,results_tmp rfl _ _ _,?_⟩;rw[HPO.out];refine⟨rfl,?_⟩;exact hb06.grown (grownBy_putObj' w6 D (.deferred none)) (by have:=hb06.size;omega) (fun r e=>by cases e;have:=HSZ.out;omega)
end
section
def Qj(f:Fr):Value:=.agg #[S f.n,S f.d]
def FrB(w:World)(p:Nat)(f:Fr):Prop:=w.heap[p]?=some (.cells #[S f.n,S f.d] 28 (0,0))
section
variable {w w':World} {p:Nat} {f:Fr}
theorem FrB.lt(h:FrB w p f):p<w.1.size:=(Array.getElem?_eq_some_iff.1 h).1
theorem FrB.cells(h:FrB w p f):w.cell? ⟨p,0,none⟩=some (.string ⟨f.n.toArray⟩)/\w.cell? ⟨p,1,none⟩=some (.string ⟨f.d.toArray⟩):=
 ⟨cell_of_row w p 0 _ 28 (0,0) h,cell_of_row w p 1 _ 28 (0,0) h⟩
theorem FrB.frozen(h:FrB w p f)(j:Nat):w.frozen? ⟨p,j,none⟩=false:=by
 unfold FrB at h;simp[World.frozen?,h]
theorem FrB.below{N:Nat}(h:FrB w p f)(hb:Below N w w')(hg:p<N):FrB w' p f:=(hb.block p hg).trans h
theorem FrB.here(h:FrB w p f)(hb:Below w.1.size w w'):FrB w' p f:=h.below hb h.lt
theorem FrB.new(w:World)(f:Fr):FrB (w.alloc (.cells #[.string ⟨f.n.toArray⟩,.string ⟨f.d.toArray⟩] 28)) w.1.size f:=heap_alloc_new w _
theorem FrB.alloc(h:FrB w p f)(o:Obj):FrB (w.alloc o) p f:=(Below.heap_alloc w o p h.lt).trans h
theorem FrB.far(h:FrB w p f){a:Addr}(hp:p≠a.block)(u:Value):FrB (w.setCell a u) p f:=(Below.heap_setCell w a u p hp).trans h
end
def Qi(f:Fr)(w:World)(e:Ending)(w':World):Prop:=e=.returned (Qj f)/\Below w.1.size w w'
def QE(x y:List UInt8)(w:World)(e:Ending)(w':World):Prop:=e=.returned (.tuple #[S x,S y])/\Below w.1.size w w'
theorem Jz{a b:Int}(hb:b≠0){w w':World}{e:Ending}(h:YD a b w e w'):e=.returned (.tuple #[.string ⟨(Qb (a.fdiv b)).toArray⟩,.string ⟨(Qb (a.fmod b)).toArray⟩,.int .i64 0])/\Below w.1.size w w':=by
 unfold YD at h;rw[if_neg hb] at h;exact h
theorem Zhk(n:Int){d:List UInt8}(hd:val d≠0):(Qb (Int.gcd n (val d):Nat)).length<=d.length+1:=by
 refine Qk ?_;have h1:=VL d;have h2:Int.gcd n (val d)<=(val d).natAbs:=Nat.le_of_dvd (by omega) (Nat.gcd_dvd_right _ _);simp
 omega
theorem Jh(n d:List UInt8)(w:World)(hp:Pow w)(hn:n.length<=50000)(hd:d.length<=50000)(hd0:val d≠0):
 Calls Tryz.prog 97 #[S n,S d] w (QE (Qb (Rat.divInt (val n) (val d)).num) (Qb (Rat.divInt (val n) (val d)).den) w):=by
 have HCM:=jq (QM d [] w (by omega) (by simp));rw[show val ([]:List UInt8)=0 from YN,Int.sub_zero] at HCM;have HPO:=jq (show QE (Qb (Rat.divInt (val n) (val d)).num) (Qb (Rat.divInt (val n) (val d)).den) w=fun e w'=>e=.returned (.tuple #[S (Qb (Rat.divInt (val n) (val d)).num),S (Qb (Rat.divInt (val n) (val d)).den)])/\Below w.1.size w w' from rfl);have HN:=jq hn;have HD:=jq hd;have HP:=jq hp;have HNEG:=jq (Rat.neg_divInt_neg (val n) (val d));generalize QE (Qb (Rat.divInt (val n) (val d)).num) (Qb (Rat.divInt (val n) (val d)).den) w=post at*;generalize hq:Rat.divInt (val n) (val d)=q at*;have HQ:=jq hq;clear hn hd hp hq;unfold S at*
 go_enter Tryz.func97,Tryz.ntmps97
 go_wp2_with fail
 refine HCM.out.mono ?_;rintro e w1 ⟨rfl,hb1⟩;go_upto_if 9 with (fail)
 go_cut [0,1] (fun s t wc=>∃n1 d1:List UInt8,s=.string ⟨n1.toArray⟩/\t=.string ⟨d1.toArray⟩/\Hid (0<val d1)/\Hid (Rat.divInt (val n1) (val d1)=q)/\Hid (n1.length<=50001)/\Hid (d1.length<=50001)/\Below w.1.size w wc)
 case first=>
  by_cases hneg:val d<0
  ·have hs:QQ (val d)= -1:=by unfold QQ;rw[if_pos hneg]
   have HNA:=jq (ZdO n w1 (HP.out.here hb1) (by have:=HN.out;omega));have HND:=jq (fun W (hb:Below w1.1.size w1 W)=>ZdO d W ((HP.out.here hb1).here hb) (by have:=HD.out;omega));unfold S at HNA HND;rw[hs];go_wp2_with fail
   refine HNA.out.mono ?_;rintro e w2 ⟨rfl,hb2⟩;go_wp2_with fail
   refine(HND.out w2 hb2).mono ?_;rintro e w3 ⟨rfl,hb3⟩;have hb13:=hb1.trans ((hb2.trans (hb3.mono hb2.size)).mono hb1.size);go_wp2_with fail
   go_meet
   refine⟨Qb (-val n),Qb (-val d),rfl,rfl,?_,?_,?_,?_,hb13⟩
   ·show _<_;rw[Qh];omega
   ·show _=_;rw[Qh,Qh,HNEG.out]
   ·show _<=_;have:=HN.out;have:=Qk (n:= -val n) (L:=n.length) (by have:=VL n;omega);omega
   ·show _<=_;have:=HD.out;have:=Qk (n:= -val d) (L:=d.length) (by have:=VL d;omega);omega
  ·have hs:QQ (val d)=1:=by unfold QQ;rw[if_neg hneg,if_pos (by omega)]
   rw[hs];go_wp2_with fail
   go_meet
   exact⟨n,d,rfl,rfl,by show _<_;omega,HQ,by show _<=_;have:=HN.out;omega,by show _<=_;have:=HD.out;omega,hb1⟩
 case rest=>
 clear HNEG HCM HQ HN HD hb1;obtain⟨n1,d1,rfl,rfl,H0,HQ,HN,HD,hb1⟩:=hcut
 obtain⟨w2,rfl⟩:∃W,W=wc:=⟨_,rfl⟩
 have HGC:=jq (Zhj n1 d1 w2 (HP.out.here hb1) (by have:=HN.out;omega) (by have:=HD.out;omega));have HGL:=jq (Zhk (val n1) (d:=d1) (by have:=H0.out;omega));have HGP:=jq (Zg0 (val n1) (val d1) (by have:=H0.out;omega));have HR1:=jq (ZgY (val n1) (val d1) H0.out);have HR2:=jq (ZgZ (val n1) (val d1) H0.out);rw[HQ.out] at HR1 HR2;generalize Int.gcd (val n1) (val d1)=g at*;have HV1:=jq (fun W (hb:Below w2.1.size w2 W)=>Jy n1 (Qb (g:Int)) W ((HP.out.here hb1).here hb) (by have:=HN.out;omega) (by have:=HGL.out;have:=HD.out;omega));have HV2:=jq (fun W (hb:Below w2.1.size w2 W)=>Jy d1 (Qb (g:Int)) W ((HP.out.here hb1).here hb) (by have:=HD.out;omega) (by have:=HGL.out;have:=HD.out;omega));rw[Qh] at HV1 HV2;unfold S at HGC HV1 HV2;go_wp2_with fail
 refine HGC.out.mono ?_;rintro e w3 ⟨rfl,hb3⟩;go_wp2_with fail
 refine(HV1.out w3 hb3).mono ?_;intro e w4 h4;obtain⟨rfl,hb4⟩:=Jz (by have:=HGP.out;omega) h4
 have hb34:=hb3.trans (hb4.mono hb3.size);clear h4;rw[HR1.out];go_wp2_with fail
 refine(HV2.out w4 hb34).mono ?_;intro e w5 h5;obtain⟨rfl,hb5⟩:=Jz (by have:=HGP.out;omega) h5
 have hb35:=hb34.trans (hb5.mono hb34.size);clear h5;rw[HR2.out];go_wp2_with fail
 rw[HPO.out];exact⟨rfl,hb1.trans (hb35.mono hb1.size)⟩
end
section
theorem JA:Qb 1=[49]:=by
 rw[show(1:Int)=((1:Nat):Int) from rfl,Ze6];unfold QD;rw[if_neg (by omega),Lib.decDigits,dif_pos (by omega)];decide
theorem YP:val [49]=1:=by rw[<-JA,Qh]
theorem JR(n d:List UInt8)(w:World)(hp:Pow w)(hn:n.length<=50000)(hd:d.length<=50000)(hd0:val d≠0):
 Calls Tryz.prog 54 #[S n,S d] w (Qi (Qd (Rat.divInt (val n) (val d))) w):=by
 have hbA:Below w.1.size w (w.alloc (.cells #[.string ⟨#[]⟩,.string ⟨#[]⟩] 28)):=(Below.refl _ _).alloc (Nat.le_refl _) _;have HRD:=jq (Jh n d (w.alloc (.cells #[.string ⟨#[]⟩,.string ⟨#[]⟩] 28)) (hp.here hbA) hn hd hd0);have HPO:=jq (show Qi (Qd (Rat.divInt (val n) (val d))) w=fun e w'=>e=.returned (Qj (Qd (Rat.divInt (val n) (val d))))/\Below w.1.size w w' from rfl);have HB:=jq (show FrB (w.alloc (.cells #[.string ⟨#[]⟩,.string ⟨#[]⟩] 28)) w.1.size Fr.zero from FrB.new w Fr.zero);have HBA:=jq hbA;generalize Qi (Qd (Rat.divInt (val n) (val d))) w=post at*;generalize Rat.divInt (val n) (val d)=q at*;clear hn hd hp hd0 hbA;unfold S at*
 go_enter Tryz.func54,Tryz.ntmps54
 go_wp2_with fail
 generalize w.alloc _=W at*;refine HRD.out.mono ?_;rintro e w1 ⟨rfl,hb1⟩;unfold S;have HB1:=jq (HB.out.here hb1);obtain⟨c0,c1⟩:=HB1.out.cells
 have f0:=HB1.out.frozen 0;have f1:=HB1.out.frozen 1;have hb01:=HBA.out.trans (hb1.mono HBA.out.size)
 by_cases h1:q.den=1
 ·have HF:=jq (show Qj (Qd q)=.agg #[.string ⟨(Qb q.num).toArray⟩,.string ⟨#[]⟩] by unfold Qj Qd;simp only[if_pos h1];rfl);rw[show Qb (q.den:Int)=[49] by rw[h1];exact JA];clear h1;go_wp2_with fail
  refine bodyPost_ret (v:=.agg #[.string ⟨(Qb q.num).toArray⟩,.string ⟨#[]⟩]) (by simp[results,Tryz.results54,go_sem,c0,c1]) rfl ?_;rw[HPO.out,HF.out];exact⟨rfl,(hb01.setCell (p:=⟨w.1.size,0,none⟩) (Nat.le_refl _) _).setCell (p:=⟨w.1.size,1,none⟩) (Nat.le_refl _) _⟩
 ·have HF:=jq (show Qj (Qd q)=.agg #[.string ⟨(Qb q.num).toArray⟩,.string ⟨(Qb q.den).toArray⟩] by unfold Qj Qd;simp only[if_neg h1];rfl)
  have hne:(Qb (q.den:Int)==[49])=false:=by
   rw[Bool.eq_false_iff];intro h;have h:=eq_of_beq h;exact h1 (by rw[<-JA] at h;have:=Zfa h;omega)
  clear h1;generalize Qb (q.den:Int)=t at*;go_wp2_with fail
  refine bodyPost_ret (v:=.agg #[.string ⟨(Qb q.num).toArray⟩,.string ⟨t.toArray⟩]) (by simp[results,Tryz.results54,go_sem,c0,c1]) rfl ?_;rw[HPO.out,HF.out];exact⟨rfl,(hb01.setCell (p:=⟨w.1.size,0,none⟩) (Nat.le_refl _) _).setCell (p:=⟨w.1.size,1,none⟩) (Nat.le_refl _) _⟩
def Fr.dt(f:Fr):List UInt8:=if val f.d=0 then[49] else f.d
theorem Fr.val_dt(f:Fr):val f.dt=f.dv:=by
 unfold Fr.dt Fr.dv
 split
 ·exact YP
 ·rfl
theorem Fr.dt_len{f:Fr}{L:Nat}(h:f.d.length<=L)(hL:1<=L):f.dt.length<=L:=by
 unfold Fr.dt
 split
 ·exact hL
 ·exact h
theorem Yc(f:Fr)(w:World)(hd:f.d.length<=100000):Calls Tryz.prog 79 #[Qj f] w (QE f.n f.dt w):=by
 have hbA:Below w.1.size w (w.alloc (.cells #[.string ⟨f.n.toArray⟩,.string ⟨f.d.toArray⟩] 28)):=(Below.refl _ _).alloc (Nat.le_refl _) _;have HCM:=jq (QM f.d [] (w.alloc (.cells #[.string ⟨f.n.toArray⟩,.string ⟨f.d.toArray⟩] 28)) hd (by simp));rw[show val ([]:List UInt8)=0 from YN,Int.sub_zero] at HCM;have HPO:=jq (show QE f.n f.dt w=fun e w'=>e=.returned (.tuple #[S f.n,S f.dt])/\Below w.1.size w w' from rfl);have HB:=jq (FrB.new w f);have HBA:=jq hbA;generalize QE f.n f.dt w=post at*;obtain⟨c0,c1⟩:=HB.out.cells
 clear hbA hd;unfold S Qj at*
 unfold S;go_enter Tryz.func79,Tryz.ntmps79
 go_wp2_with fail
 generalize w.alloc _=W at*;refine HCM.out.mono ?_;rintro e w1 ⟨rfl,hb1⟩;have HB1:=jq (HB.out.here hb1);clear c0 c1;obtain⟨c0,c1⟩:=HB1.out.cells
 have hb01:=HBA.out.trans (hb1.mono HBA.out.size)
 by_cases h0:val f.d=0
 ·have hs:(QQ (val f.d)==0)=true:=by rw[h0];rfl
  rw[show f.dt=[49] by unfold Fr.dt;rw[if_pos h0]] at HPO;clear h0;go_wp2_with fail
  rw[HPO.out];exact⟨rfl,hb01⟩
 ·have hs:(QQ (val f.d)==0)=false:=by unfold QQ;(repeat' split)<;>simp<;>omega
  rw[show f.dt=f.d by unfold Fr.dt;rw[if_neg h0]] at HPO;clear h0;go_wp2_with fail
  go_quiet (fail)
  go_wp2_with fail
  rw[HPO.out];exact⟨rfl,bdN hb01 _⟩
end
end Go.Proofs.YtokjnjdbnabchaaGreatDoor
