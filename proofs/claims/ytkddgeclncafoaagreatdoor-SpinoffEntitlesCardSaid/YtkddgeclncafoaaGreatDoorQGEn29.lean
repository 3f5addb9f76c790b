/- Lto. -/
import Derived.Test.YtkddgeclncafoaaGreatDoorQGEn28
import Derived.Test.YtkddgeclncafoaaGreatDoorQGEn3
import Derived.Test.YtkddgeclncafoaaGreatDoorQGEn31
set_option maxRecDepth 100000
set_option maxHeartbeats 8000000
namespace Go.Proofs.YtkddgeclncafoaaGreatDoor
open Go.Lib renaming hid→jq
section
open Go.RowKit Go.Shelf
attribute [local go_sem] Oper.semAt_some
def XA(g:Lot->List UInt8)(l:List Lot):Int:=(l.map (fun z=>val (g z))).sum
theorem Zas(g:Lot->List UInt8)(l:List Lot)(x:Lot):XA g (l++[x])=XA g l+val (g x):=by
 unfold XA;rw[List.map_append,Xe];simp
theorem Vz{g:Lot->List UInt8}{l:List Lot}{L:Nat}(h:∀x∈l,(g x).length<=L)(hn:l.length<=9999):(Qa (XA g l)).length<=L+5:=by
 have e:XA g l=Qz (l.map g):=by unfold XA Qz;rw[List.map_map];rfl
 rw[e];exact Jc (fun y hy=>by obtain⟨x,hx,rfl⟩:=List.mem_map.1 hy;exact h x hx) (by simpa using hn)
def Vc(a b:List UInt8)(w:World)(e:Ending)(w':World):Prop:=e=.returned (.tuple #[S a,S b])/\Below w.1.size w w'
theorem Zef(A:Option Addr)(n c:Nat)(xs:List Lot)(i:List UInt8)(w:World)(hp:Env w)(hs:YI w w.1.size A n xs)(hn:n<=9999)(hq:∀x∈xs,x.q.length<=50000)(hc:∀x∈xs,x.c.length<=50000):
 Calls Tryz.prog 17 #[.slice A n c,S i] w (Vc (Qa (QZ xs i (fun z=>val z.q))) (Qa (QZ xs i (fun z=>val z.c))) w):=by
 have HPO:=jq (show Vc (Qa (QZ xs i (fun z=>val z.q))) (Qa (QZ xs i (fun z=>val z.c))) w=fun e w'=>e=.returned (.tuple #[.string ⟨(Qa (XA (·.q) (Qf xs i))).toArray⟩,.string ⟨(Qa (XA (·.c) (Qf xs i))).toArray⟩])/\Below w.1.size w w' from rfl);generalize Vc (Qa (QZ xs i (fun z=>val z.q))) (Qa (QZ xs i (fun z=>val z.c))) w=post at*;have HP:=jq hp;have HLO:=jq (fun W=>ZhW A n c i W);have HLL:=jq (show(Qf xs i).length<=9999 from Nat.le_trans (List.length_filter_le _ _) (by rw[<-hs.1];exact hn));have HQ:=jq (show ∀x∈Qf xs i,x.q.length<=50000 from fun x hx=>hq x (List.mem_filter.1 hx).1);have HC:=jq (show ∀x∈Qf xs i,x.c.length<=50000 from fun x hx=>hc x (List.mem_filter.1 hx).1);have HS:=jq hs;have HN:=jq (show n<=1000000 by omega);have b1:=Box.new w 24 (.string ⟨#[]⟩);have b2:=Box.new (w.alloc (.cells #[.string ⟨#[]⟩] 24)) 24 (.string ⟨#[]⟩);have HB2:=jq (show Box ((w.alloc (.cells #[.string ⟨#[]⟩] 24)).alloc (.cells #[.string ⟨#[]⟩] 24)) (w.1.size+1) 24 (.string ⟨#[]⟩) by simpa using b2);have HB1:=jq (b1.alloc (.cells #[.string ⟨#[]⟩] 24));have HBW:=jq (show Below w.1.size w ((w.alloc (.cells #[.string ⟨#[]⟩] 24)).alloc (.cells #[.string ⟨#[]⟩] 24)) from((Below.refl _ _).alloc (Nat.le_refl _) _).alloc (by simp) _);have HSZ:=jq (show((w.alloc (.cells #[.string ⟨#[]⟩] 24)).alloc (.cells #[.string ⟨#[]⟩] 24)).heap.size=w.1.size+2 by simp);clear hp hs hn hq hc b1 b2;unfold S at*
 refine(callsIn_wide (n:=5)).1 ?_;refine callsIn_of_wp_marks Tryz.func17 rfl trivial ?_ rfl;simp only[Tryz.ntmps17,List.size_toArray,List.length_cons,List.length_nil,Nat.reduceAdd,Nat.reduceSub,Array.replicate_succ,Array.replicate_zero,List.push_toArray,List.append_toArray,List.nil_append,List.cons_append]
 gi_wp2_with fail
 refine⟨trivial,?_⟩;generalize (w.alloc (.cells #[.string ⟨#[]⟩] 24)).alloc (.cells #[.string ⟨#[]⟩] 24)=W0 at*;refine(callsIn_wide.2 (HLO.out W0)).mono ?_;rintro e w1 ⟨rfl,rfl⟩;have hbA:Below W0.1.size W0 ((W0.alloc (.cells #[.slice A n c] 22)).alloc (.cells #[.string ⟨i.toArray⟩] 9)):=((Below.refl _ _).alloc (Nat.le_refl _) _).alloc (by simp) _;have hB1:=HB1.out.here hbA;have hB2:=HB2.out.here hbA;have hBW:=HBW.out.trans (hbA.mono HBW.out.size);have hSt:=(Box.new W0 22 (.slice A n c)).alloc (.cells #[.string ⟨i.toArray⟩] 9);have hSi:Box ((W0.alloc (.cells #[.slice A n c] 22)).alloc (.cells #[.string ⟨i.toArray⟩] 9)) (W0.1.size+1) 9 (.string ⟨i.toArray⟩):=by have:=Box.new (W0.alloc (.cells #[.slice A n c] 22)) 9 (.string ⟨i.toArray⟩);simpa using this
 have hz1:((W0.alloc (.cells #[.slice A n c] 22)).alloc (.cells #[.string ⟨i.toArray⟩] 9)).heap.size=w.1.size+4:=by have:=HSZ.out;simp;omega
 rw[HSZ.out] at hSt hSi;have HSEQ:=jq (ZdE Fence.wide 4 trivial rfl (by omega) (fun b=>b<w.1.size\/b=w.1.size+2+1) (w.1.size+2) (w.1.size+2+1) w.1.size A n c xs i ((W0.alloc (.cells #[.slice A n c] 22)).alloc (.cells #[.string ⟨i.toArray⟩] 9)) hSt hSi (by omega) (HS.out.below hBW) HN.out (fun _ h=>.inl h) (.inr rfl));have HZ0:=HSZ.out;have HB1':=jq hB1;have HB2':=jq hB2;have HBW':=jq hBW;have HZ1:=jq hz1;clear hbA hB1 hB2 hBW hSt hSi hz1 HB1 HB2 HBW
 gi_wp2_with fail
 generalize (W0.alloc (.cells #[.slice A n c] 22)).alloc (.cells #[.string ⟨i.toArray⟩] 9)=W1 at*
 refine wpIn_rangeFunc_ownH (α:={z:Lot//z∈Qf xs i}) (F:=Fence.wide) (n:=5) rfl (by omega) (gf:=88) (lb:=#[.pointer (some ⟨w.1.size+2,0,none⟩),.pointer (some ⟨w.1.size+2+1,0,none⟩)]) rfl trivial (enters_of Tryz.func88 (by kernel_rfl) rfl)
  HSEQ.out (fun h k=>h.trans k) ?hKb (Below.refl _ _) (fun _=>rfl)
  (fun(pre:List {z:Lot//z∈Qf xs i}) W=>Box W w.1.size 24 (.string ⟨(Qa (XA (·.q) (Ya pre))).toArray⟩)/\Box W (w.1.size+1) 24 (.string ⟨(Qa (XA (·.c) (Ya pre))).toArray⟩)/\Below w.1.size w W/\W1.1.size<=W.1.size) (fun _ _ _=>False)
  (fun pre W W' row ⟨h1,h2,h3,h4⟩ hg hr=>⟨h1.turned hg hr,h2.turned hg hr,Qy h3 hg h3.size (fun g e=>by have:=(hr g e).1;have:=HZ1.out;omega),Nat.le_trans h4 hg.size⟩)
  (fun _ _ _ _ _ h _ _=>h) ⟨HB1'.out,HB2'.out,HBW'.out,Nat.le_refl _⟩
  (fun x a' W=>∃Bx,w.1.size+1<Bx/\BlkB W Bx (ZaD x.1) 50/\a'={tmps:=#[.slice A n c,.string ⟨i.toArray⟩,undef,undef,.string ⟨#[]⟩,.string ⟨#[]⟩,.pointer (some ⟨w.1.size,0,none⟩),.pointer (some ⟨w.1.size+1,0,none⟩),.pointer (some ⟨Bx,0,none⟩),.slice A n c,.string ⟨i.toArray⟩,.func (.func 88) #[] #[.pointer (some ⟨w.1.size+2,0,none⟩),.pointer (some ⟨w.1.size+2+1,0,none⟩)],Zat x.1,undef,undef,undef,undef,undef,undef,undef,undef,undef,undef],defers:=[]})
  (fun x a' _ W W' row ⟨Bx,h1,h2,h3⟩ hg hr=>⟨Bx,h1,(hg.block Bx h2.lt (fun e=>by
    obtain⟨_,o,ho,hc⟩:=hr _ e.symm
    unfold BlkB at h2;rw[h2] at ho;injection ho with ho;rw[<-ho] at hc
    cases hc)).trans h2,h3⟩) ?assign ?body ?done ?stop
 case hKb=>
  intro W l o o' hl _ _ _;exact KeepS.put (fun e=>by have:=HZ1.out;rcases e with e|e<;>omega) _
 case stop=>intro D c pre W _ _ h;exact h.elim
 case assign=>
  rintro lr pre x W K ⟨hb1,hb2,hbl,hsz⟩ hK
  dsimp only[Zat,S]
  gi_wp2
  refine hK _ _ ((KeepsOthers.alloc _ _).from _) (KeepS.below ((Below.refl _ W).alloc (Nat.le_refl _) _)) ⟨hb1.alloc _,hb2.alloc _,hbl.alloc hbl.size _,by simp;omega⟩ ⟨W.1.size,by have:=HZ1.out;omega,heap_alloc_new W _,rfl⟩
 case body=>
  rintro lr pre x a' W hlr ⟨rr,hrr⟩ ⟨hb1,hb2,hbl,hsz⟩ ⟨Bx,hBx,bX,rfl⟩ hlen;have HSQ:=jq (Zas (·.q) (Ya pre) x.1);have HSC:=jq (Zas (·.c) (Ya pre) x.1);have HSN:=jq (Zed pre x);have hle:(Ya pre).length<=9999:=by rw[Zgo];have:=HLL.out;omega
  have hmq:∀z∈Ya pre,z.q.length<=50000:=fun z hz=>by obtain⟨y,hy,rfl⟩:=List.mem_map.1 hz;exact HQ.out _ y.2
  have hmc:∀z∈Ya pre,z.c.length<=50000:=fun z hz=>by obtain⟨y,hy,rfl⟩:=List.mem_map.1 hz;exact HC.out _ y.2
  have HADQ:=jq (fun W hp=>VF (Qa (XA (·.q) (Ya pre))) x.1.q W hp (by have:=Vz (g:=(·.q)) hmq hle;omega) (by have:=HQ.out _ x.2;omega));have HADC:=jq (fun W hp=>VF (Qa (XA (·.c) (Ya pre))) x.1.c W hp (by have:=Vz (g:=(·.c)) hmc hle;omega) (by have:=HC.out _ x.2;omega));rw[Qc,<-HSQ.out,<-HSN.out] at HADQ;rw[Qc,<-HSC.out,<-HSN.out] at HADC;generalize htq2:Qa (XA (·.q) (Ya (pre++[x])))=tq2 at*;generalize htc2:Qa (XA (·.c) (Ya (pre++[x])))=tc2 at*;have HTQ2:=jq htq2;have HTC2:=jq htc2;clear htq2 htc2;generalize Qa (XA (·.q) (Ya pre))=tq at*;generalize Qa (XA (·.c) (Ya pre))=tc at*;obtain⟨y,hy⟩:=x
  dsimp only at HADQ HADC bX
  have HB1:=jq hb1;have HB2:=jq hb2;have HBL:=jq hbl;have HX:=jq bX;have HZW:=jq hsz;clear hmq hmc hle HSQ HSC HSN hrr hlen
  have HSS:=jq (show ∀X,Below W.1.size W X->X.cell? ⟨w.1.size,0,none⟩=some (.string ⟨tq.toArray⟩)/\X.cell? ⟨w.1.size+1,0,none⟩=some (.string ⟨tc.toArray⟩)/\X.cell? ⟨Bx,4,none⟩=some (.string ⟨y.q.toArray⟩)/\X.cell? ⟨Bx,5,none⟩=some (.string ⟨y.c.toArray⟩)/\X.frozen? ⟨w.1.size,0,none⟩=false/\X.frozen? ⟨w.1.size+1,0,none⟩=false from fun X hX=>
   ⟨(HB1.out.here hX).cell,(HB2.out.here hX).cell,(HX.out.here hX).cell 4 rfl,(HX.out.here hX).cell 5 rfl,(HB1.out.here hX).frozen,(HB2.out.here hX).frozen⟩)
  clear hb1 hb2 bX;have hEN:=HP.out.here hbl;have HE:=jq (show ∀X,Below W.1.size W X->Pow X from fun X hX=>(hEN.here hX).pow);clear hEN hbl;obtain⟨z0,z1,z2,z3,z4,z5⟩:=HSS.out W (Below.refl _ _)
  have hmix:Tryz.prog.follows .mixedOrders=true:=by kernel_rfl
  unfold S at HADQ HADC
  gi_wp2
  have hend:∀w6,Below W.1.size W w6->KeepsFrom W1.1.size W ((w6.setCell ⟨w.1.size,0,none⟩ (.string ⟨tq2.toArray⟩)).setCell ⟨w.1.size+1,0,none⟩ (.string ⟨tc2.toArray⟩))/\KeepS (fun b=>b<w.1.size\/b=w.1.size+2+1) W ((w6.setCell ⟨w.1.size,0,none⟩ (.string ⟨tq2.toArray⟩)).setCell ⟨w.1.size+1,0,none⟩ (.string ⟨tc2.toArray⟩))/\
   Box ((w6.setCell ⟨w.1.size,0,none⟩ (.string ⟨tq2.toArray⟩)).setCell ⟨w.1.size+1,0,none⟩ (.string ⟨tc2.toArray⟩)) w.1.size 24 (.string ⟨tq2.toArray⟩)/\Box ((w6.setCell ⟨w.1.size,0,none⟩ (.string ⟨tq2.toArray⟩)).setCell ⟨w.1.size+1,0,none⟩ (.string ⟨tc2.toArray⟩)) (w.1.size+1) 24 (.string ⟨tc2.toArray⟩)/\
   Below w.1.size w ((w6.setCell ⟨w.1.size,0,none⟩ (.string ⟨tq2.toArray⟩)).setCell ⟨w.1.size+1,0,none⟩ (.string ⟨tc2.toArray⟩))/\W1.1.size<=((w6.setCell ⟨w.1.size,0,none⟩ (.string ⟨tq2.toArray⟩)).setCell ⟨w.1.size+1,0,none⟩ (.string ⟨tc2.toArray⟩)).heap.size:=fun w6 hz=>
   ⟨(ZjV hz _).trans (((KeepsOthers.setCell _ _ _).trans (KeepsOthers.setCell _ _ _)).from _),
    (KeepS.below hz).trans ((KeepS.set (S:=fun b=>b<w.1.size\/b=w.1.size+2+1) (p:=⟨w.1.size,0,none⟩) (fun e=>by rcases e with e|e<;>simp at e<;>omega) _).trans (KeepS.set (S:=fun b=>b<w.1.size\/b=w.1.size+2+1) (p:=⟨w.1.size+1,0,none⟩) (fun e=>by rcases e with e|e<;>simp at e<;>omega) _)),
    ((HB1.out.here hz).set_ _).far (p:=⟨w.1.size+1,0,none⟩) (by simp) _,((HB2.out.here hz).far (p:=⟨w.1.size,0,none⟩) (by simp) _).set_ _,
    ((HBL.out.trans (hz.mono HBL.out.size)).setCell (p:=⟨w.1.size,0,none⟩) (Nat.le_refl _) _).setCell (p:=⟨w.1.size+1,0,none⟩) (by simp) _,by simp;exact Nat.le_trans HZW.out hz.size⟩
  refine Ze4 (S:=(fun X=>X.cell? ⟨Bx,4,none⟩=some (.string ⟨y.q.toArray⟩)/\X.cell? ⟨Bx,5,none⟩=some (.string ⟨y.c.toArray⟩))) hmix (by kernel_rfl) (fun⟨_,_,h⟩=>h) ?_;have hSx:∀X,Below W.1.size W X->X.cell? ⟨Bx,4,none⟩=some (.string ⟨y.q.toArray⟩)/\X.cell? ⟨Bx,5,none⟩=some (.string ⟨y.c.toArray⟩):=fun X hX=>⟨(HSS.out X hX).2.2.1,(HSS.out X hX).2.2.2.1⟩
  have hS1:∀X,Below W.1.size W X->(X.setCell ⟨w.1.size,0,none⟩ (.string ⟨tq2.toArray⟩)).cell? ⟨Bx,4,none⟩=some (.string ⟨y.q.toArray⟩)/\(X.setCell ⟨w.1.size,0,none⟩ (.string ⟨tq2.toArray⟩)).cell? ⟨Bx,5,none⟩=some (.string ⟨y.c.toArray⟩):=fun X hX=>
   ⟨((HX.out.here hX).far (a:=⟨w.1.size,0,none⟩) (by simp;omega) _).cell 4 rfl,((HX.out.here hX).far (a:=⟨w.1.size,0,none⟩) (by simp;omega) _).cell 5 rfl⟩
  have hS2:∀X,Below W.1.size W X->((X.setCell ⟨w.1.size,0,none⟩ (.string ⟨tq2.toArray⟩)).setCell ⟨w.1.size+1,0,none⟩ (.string ⟨tc2.toArray⟩)).cell? ⟨Bx,4,none⟩=some (.string ⟨y.q.toArray⟩)/\((X.setCell ⟨w.1.size,0,none⟩ (.string ⟨tq2.toArray⟩)).setCell ⟨w.1.size+1,0,none⟩ (.string ⟨tc2.toArray⟩)).cell? ⟨Bx,5,none⟩=some (.string ⟨y.c.toArray⟩):=fun X hX=>
   ⟨(((HX.out.here hX).far (a:=⟨w.1.size,0,none⟩) (by simp;omega) _).far (a:=⟨w.1.size+1,0,none⟩) (by simp;omega) _).cell 4 rfl,(((HX.out.here hX).far (a:=⟨w.1.size,0,none⟩) (by simp;omega) _).far (a:=⟨w.1.size+1,0,none⟩) (by simp;omega) _).cell 5 rfl⟩
  have hs0:=hSx W.drew (Below.refl _ W).drew;refine wpAnyH_take (i:=1) (v:= ?_) rfl (by kernel_rfl) (by kernel_rfl) (by kernel_rfl) (fun _ _ _ h=>h) (Or.inl ⟨by rfl,?_⟩) hs0 ?_
  rotate_left
  ·intro X hX;obtain⟨hX1,hX2⟩:=hX;go_simp;first|done|with_reducible rfl
  try simp only[Act.put,List.setIfInBounds_toArray]
  refine wpAnyH_take (i:=5) (v:= ?_) rfl (by kernel_rfl) (by kernel_rfl) (by kernel_rfl) (fun _ _ _ h=>h) (Or.inl ⟨by rfl,?_⟩) hs0 ?_
  rotate_left
  ·intro X hX;obtain⟨hX1,hX2⟩:=hX;go_simp;first|done|with_reducible rfl
  try simp only[Act.put]
  refine wpAnyH_take (i:=2) (v:= ?_) rfl (by kernel_rfl) (by kernel_rfl) (by kernel_rfl) (fun _ _ _ h=>h) (Or.inl ⟨by rfl,?_⟩) hs0 ?_
  rotate_left
  ·intro X hX;obtain⟨hX1,hX2⟩:=hX;go_simp;first|done|with_reducible rfl
  try simp only[Act.put]
  refine wpAnyH_take (i:=6) (v:= ?_) rfl (by kernel_rfl) (by kernel_rfl) (by kernel_rfl) (fun _ _ _ h=>h) (Or.inl ⟨by rfl,?_⟩) hs0 ?_
  rotate_left
  ·intro X hX;obtain⟨hX1,hX2⟩:=hX;go_simp;first|done|with_reducible rfl
  try simp only[Act.put]
  refine wpAnyH_ready (rs:=[0,4]) (by kernel_rfl) (by simp) ?_;refine AllReadyH.cons rfl (fun K hK=> ?_) ?_
  ·skip
   go_simp
   refine hK.out _ _ hs0 (fun _=> ?_);clear hK K
   try simp only[Act.put,List.setIfInBounds_toArray,List.set_cons_zero,List.set_cons_succ]
   refine wpAnyH_ready (rs:=[3,4]) (by kernel_rfl) (by simp) ?_;refine AllReadyH.cons rfl (fun K hK=> ?_) ?_
   ·skip
    go_simp
    go_at_call 47
    refine(HADQ.out _ (HE.out _ (Below.refl W.1.size W).drew)).mono ?_;rintro e w5 ⟨rfl,hb5⟩
    try unfold S
    have hz5:Below W.1.size W w5:=(Below.refl _ W).drew.trans hb5;obtain⟨y0,y1,y2,y3,y4,y5⟩:=HSS.out _ hz5
    refine hK.out _ _ (hSx _ hz5) (fun _=> ?_);clear hK K
    try simp only[Act.put,List.setIfInBounds_toArray,List.set_cons_zero,List.set_cons_succ]
    refine wpAnyH_ready (rs:=[4]) (by kernel_rfl) (by simp) ?_;refine AllReadyH.cons rfl (fun K hK=> ?_) ?_
    rotate_left
    ·exact AllReadyH.nil
    go_simp
    refine hK.out _ _ (hSx _ hz5) (fun _=> ?_);clear hK K
    try simp only[Act.put,List.setIfInBounds_toArray,List.set_cons_zero,List.set_cons_succ]
    refine wpAnyH_ready (rs:=[7]) (by kernel_rfl) (by simp) ?_;refine AllReadyH.cons rfl (fun K hK=> ?_) ?_
    rotate_left
    ·exact AllReadyH.nil
    go_simp
    go_at_call 47
    refine(HADC.out _ (HE.out _ hz5)).mono ?_;rintro e w6 ⟨rfl,hb6⟩
    try unfold S
    have hz6:Below W.1.size W w6:=hz5.trans (hb6.mono hz5.size);obtain⟨x0,x1,x2,x3,x4,x5⟩:=HSS.out _ hz6
    refine hK.out _ _ (hSx _ hz6) (fun _=> ?_);clear hK K
    try simp only[Act.put,List.setIfInBounds_toArray,List.set_cons_zero,List.set_cons_succ]
    refine wpAnyH_ready (rs:=[8]) (by kernel_rfl) (by simp) ?_;refine AllReadyH.cons rfl (fun K hK=> ?_) ?_
    rotate_left
    ·exact AllReadyH.nil
    go_simp
    refine hK.out _ _ (hS1 _ hz6) (fun _=> ?_);clear hK K
    try simp only[Act.put,List.setIfInBounds_toArray,List.set_cons_zero,List.set_cons_succ]
    have fz:(w6.setCell ⟨w.1.size,0,none⟩ (.string ⟨tq2.toArray⟩)).frozen? ⟨w.1.size+1,0,none⟩=false:=((HB2.out.here hz6).far (p:=⟨w.1.size,0,none⟩) (by simp) _).frozen;have cz:(w6.setCell ⟨w.1.size,0,none⟩ (.string ⟨tq2.toArray⟩)).cell? ⟨w.1.size+1,0,none⟩=some (.string ⟨tc.toArray⟩):=((HB2.out.here hz6).far (p:=⟨w.1.size,0,none⟩) (by simp) _).cell;refine wpAnyH_ready (rs:=[9]) (by kernel_rfl) (by simp) ?_;refine AllReadyH.cons rfl (fun K hK=> ?_) ?_
    rotate_left
    ·exact AllReadyH.nil
    go_simp
    refine hK.out _ _ (hS2 _ hz6) (fun _=> ?_);clear hK K;refine wpAnyH_done (by kernel_rfl) ?_ _
    gi_wp2
    obtain⟨e1,e2,e3,e4,e5,e6⟩:=hend w6 hz6
    exact⟨e1,e2,(show Box _ _ _ (.string ⟨(Qa (XA (·.q) (Ya (pre++[⟨y,hy⟩])))).toArray⟩) by rw[HTQ2.out];exact e3),(show Box _ _ _ (.string ⟨(Qa (XA (·.c) (Ya (pre++[⟨y,hy⟩])))).toArray⟩) by rw[HTC2.out];exact e4),e5,e6⟩
   refine AllReadyH.cons rfl (fun K hK=> ?_) ?_
   rotate_left
   ·exact AllReadyH.nil
   ·skip
    go_simp
    refine hK.out _ _ hs0 (fun _=> ?_);clear hK K
    try simp only[Act.put,List.setIfInBounds_toArray,List.set_cons_zero,List.set_cons_succ]
    refine wpAnyH_ready (rs:=[3]) (by kernel_rfl) (by simp) ?_;refine AllReadyH.cons rfl (fun K hK=> ?_) ?_
    rotate_left
    ·exact AllReadyH.nil
    go_simp
    go_at_call 47
    refine(HADQ.out _ (HE.out _ (Below.refl W.1.size W).drew)).mono ?_;rintro e w5 ⟨rfl,hb5⟩
    try unfold S
    have hz5:Below W.1.size W w5:=(Below.refl _ W).drew.trans hb5;obtain⟨y0,y1,y2,y3,y4,y5⟩:=HSS.out _ hz5
    refine hK.out _ _ (hSx _ hz5) (fun _=> ?_);clear hK K
    try simp only[Act.put,List.setIfInBounds_toArray,List.set_cons_zero,List.set_cons_succ]
    refine wpAnyH_ready (rs:=[7]) (by kernel_rfl) (by simp) ?_;refine AllReadyH.cons rfl (fun K hK=> ?_) ?_
    rotate_left
    ·exact AllReadyH.nil
    go_simp
    go_at_call 47
    refine(HADC.out _ (HE.out _ hz5)).mono ?_;rintro e w6 ⟨rfl,hb6⟩
    try unfold S
    have hz6:Below W.1.size W w6:=hz5.trans (hb6.mono hz5.size);obtain⟨x0,x1,x2,x3,x4,x5⟩:=HSS.out _ hz6
    refine hK.out _ _ (hSx _ hz6) (fun _=> ?_);clear hK K
    try simp only[Act.put,List.setIfInBounds_toArray,List.set_cons_zero,List.set_cons_succ]
    refine wpAnyH_ready (rs:=[8]) (by kernel_rfl) (by simp) ?_;refine AllReadyH.cons rfl (fun K hK=> ?_) ?_
    rotate_left
    ·exact AllReadyH.nil
    go_simp
    refine hK.out _ _ (hS1 _ hz6) (fun _=> ?_);clear hK K
    try simp only[Act.put,List.setIfInBounds_toArray,List.set_cons_zero,List.set_cons_succ]
    have fz:(w6.setCell ⟨w.1.size,0,none⟩ (.string ⟨tq2.toArray⟩)).frozen? ⟨w.1.size+1,0,none⟩=false:=((HB2.out.here hz6).far (p:=⟨w.1.size,0,none⟩) (by simp) _).frozen;have cz:(w6.setCell ⟨w.1.size,0,none⟩ (.string ⟨tq2.toArray⟩)).cell? ⟨w.1.size+1,0,none⟩=some (.string ⟨tc.toArray⟩):=((HB2.out.here hz6).far (p:=⟨w.1.size,0,none⟩) (by simp) _).cell;refine wpAnyH_ready (rs:=[9]) (by kernel_rfl) (by simp) ?_;refine AllReadyH.cons rfl (fun K hK=> ?_) ?_
    rotate_left
    ·exact AllReadyH.nil
    go_simp
    refine hK.out _ _ (hS2 _ hz6) (fun _=> ?_);clear hK K;refine wpAnyH_done (by kernel_rfl) ?_ _
    gi_wp2
    obtain⟨e1,e2,e3,e4,e5,e6⟩:=hend w6 hz6
    exact⟨e1,e2,(show Box _ _ _ (.string ⟨(Qa (XA (·.q) (Ya (pre++[⟨y,hy⟩])))).toArray⟩) by rw[HTQ2.out];exact e3),(show Box _ _ _ (.string ⟨(Qa (XA (·.c) (Ya (pre++[⟨y,hy⟩])))).toArray⟩) by rw[HTC2.out];exact e4),e5,e6⟩
  refine AllReadyH.cons rfl (fun K hK=> ?_) ?_
  rotate_left
  ·exact AllReadyH.nil
  ·skip
   go_simp
   refine hK.out _ _ hs0 (fun _=> ?_);clear hK K
   try simp only[Act.put,List.setIfInBounds_toArray,List.set_cons_zero,List.set_cons_succ]
   refine wpAnyH_ready (rs:=[0]) (by kernel_rfl) (by simp) ?_;refine AllReadyH.cons rfl (fun K hK=> ?_) ?_
   rotate_left
   ·exact AllReadyH.nil
   go_simp
   refine hK.out _ _ hs0 (fun _=> ?_);clear hK K
   try simp only[Act.put,List.setIfInBounds_toArray,List.set_cons_zero,List.set_cons_succ]
   refine wpAnyH_ready (rs:=[3]) (by kernel_rfl) (by simp) ?_;refine AllReadyH.cons rfl (fun K hK=> ?_) ?_
   rotate_left
   ·exact AllReadyH.nil
   go_simp
   go_at_call 47
   refine(HADQ.out _ (HE.out _ (Below.refl W.1.size W).drew)).mono ?_;rintro e w5 ⟨rfl,hb5⟩
   try unfold S
   have hz5:Below W.1.size W w5:=(Below.refl _ W).drew.trans hb5;obtain⟨y0,y1,y2,y3,y4,y5⟩:=HSS.out _ hz5
   refine hK.out _ _ (hSx _ hz5) (fun _=> ?_);clear hK K
   try simp only[Act.put,List.setIfInBounds_toArray,List.set_cons_zero,List.set_cons_succ]
   refine wpAnyH_ready (rs:=[7]) (by kernel_rfl) (by simp) ?_;refine AllReadyH.cons rfl (fun K hK=> ?_) ?_
   rotate_left
   ·exact AllReadyH.nil
   go_simp
   go_at_call 47
   refine(HADC.out _ (HE.out _ hz5)).mono ?_;rintro e w6 ⟨rfl,hb6⟩
   try unfold S
   have hz6:Below W.1.size W w6:=hz5.trans (hb6.mono hz5.size);obtain⟨x0,x1,x2,x3,x4,x5⟩:=HSS.out _ hz6
   refine hK.out _ _ (hSx _ hz6) (fun _=> ?_);clear hK K
   try simp only[Act.put,List.setIfInBounds_toArray,List.set_cons_zero,List.set_cons_succ]
   refine wpAnyH_ready (rs:=[8]) (by kernel_rfl) (by simp) ?_;refine AllReadyH.cons rfl (fun K hK=> ?_) ?_
   rotate_left
   ·exact AllReadyH.nil
   go_simp
   refine hK.out _ _ (hS1 _ hz6) (fun _=> ?_);clear hK K
   try simp only[Act.put,List.setIfInBounds_toArray,List.set_cons_zero,List.set_cons_succ]
   have fz:(w6.setCell ⟨w.1.size,0,none⟩ (.string ⟨tq2.toArray⟩)).frozen? ⟨w.1.size+1,0,none⟩=false:=((HB2.out.here hz6).far (p:=⟨w.1.size,0,none⟩) (by simp) _).frozen;have cz:(w6.setCell ⟨w.1.size,0,none⟩ (.string ⟨tq2.toArray⟩)).cell? ⟨w.1.size+1,0,none⟩=some (.string ⟨tc.toArray⟩):=((HB2.out.here hz6).far (p:=⟨w.1.size,0,none⟩) (by simp) _).cell;refine wpAnyH_ready (rs:=[9]) (by kernel_rfl) (by simp) ?_;refine AllReadyH.cons rfl (fun K hK=> ?_) ?_
   rotate_left
   ·exact AllReadyH.nil
   go_simp
   refine hK.out _ _ (hS2 _ hz6) (fun _=> ?_);clear hK K;refine wpAnyH_done (by kernel_rfl) ?_ _
   gi_wp2
   obtain⟨e1,e2,e3,e4,e5,e6⟩:=hend w6 hz6
   exact⟨e1,e2,(show Box _ _ _ (.string ⟨(Qa (XA (·.q) (Ya (pre++[⟨y,hy⟩])))).toArray⟩) by rw[HTQ2.out];exact e3),(show Box _ _ _ (.string ⟨(Qa (XA (·.c) (Ya (pre++[⟨y,hy⟩])))).toArray⟩) by rw[HTC2.out];exact e4),e5,e6⟩
 case done=>
  rintro D ys W hD hS ⟨hb1,hb2,hbl,hsz⟩ hK;have c1:=hb1.cell;have c2:=hb2.cell;have HYS:=jq (show Ya ys=Qf xs i from hS);rw[HYS.out] at c1 c2;have HBL:=jq hbl;clear hb1 hb2 hbl hS
  gi_wp2
  refine wpIn_wide.2 ?_
  go_quiet (fail)
  go_wp2_with fail
  gi_wp2
  refine⟨by simp,.inl ⟨_,_,rfl,run_takeDeferred hK,?_⟩⟩;refine⟨_,results_tmp2 rfl _ _ _,?_⟩;rw[HPO.out];exact⟨rfl,(bdN HBL.out nq).grown (grownBy_putObj' _ D (.deferred none)) HBL.out.size (fun r e=>by cases e;have:=HZ1.out;omega)⟩
end
end Go.Proofs.YtkddgeclncafoaaGreatDoor
