/- Vof. -/
import Derived.Test.YtmfjmngebldanaaGreatDoorQGVe33
import Derived.Test.YtmfjmngebldanaaGreatDoorQGVe42
set_option maxRecDepth 100000
set_option maxHeartbeats 8000000
namespace Go.Proofs.YtmfjmngebldanaaGreatDoor
open Go.Lib renaming hid→jq
section
open Go.RowKit Go.Shelf
attribute [local go_sem] Oper.semAt_some
attribute [local go_sem ↓] Ql Qz YP
def OfPost(src:List Fx)(l:List Fct)(e2:Int)(w:World):Ending->World->Prop:=fun e w'=>
 ∃A c ys,e=.returned (.tuple #[.slice A ys.length c,.int .i64 e2])/\Fxs w' w'.1.size A ys.length ys/\ys.map (·.1)=l/\(ys.length<=c/\(A=none->c=0)/\(∀a:Addr,A=some a->w.1.size<=a.block)/\∀y∈ys,FxM w' w.1.size y)/\Below w.1.size w w'/\∀y∈ys,∃x∈src,y=(Xk x.1,x.2)
theorem OfPost.fs{src:List Fx}{l:List Fct}{e2:Int}{w w':World}{e:Ending}(h:OfPost src l e2 w e w'):FsPost l e2 w e w':=by
 obtain⟨A,c,ys,h1,h2,h3,h4,h5,_⟩:=h
 exact⟨A,c,ys,h1,h2,h3,h4,h5⟩
theorem OfPost.empty{src:List Fx}{w w':World}{e2:Int}(hb:Below w.1.size w w'):OfPost src [] e2 w (.returned (.tuple #[.slice none 0 0,.int .i64 e2])) w':=
 ⟨none,0,[],rfl,Fxs.nil,rfl,⟨Nat.le_refl _,fun _=>rfl,fun _ h=>(by cases h),fun _ h=>(by cases h)⟩,hb,fun _ h=>(by cases h)⟩
structure OfI {xs:List Fx} (w:World) (p0 sz:Nat) (pre:List (InE xs)) (W:World) (ob:Option Nat->Prop):Prop where
 ex:∃(A:Option Addr) (c:Nat) (ys:List Fx),Box W p0 22 (.slice A ys.length c)/\Own QF 21 43 W w.1.size (.slice A ys.length c) ys/\ys.map (·.1)=((Xu pre).filter fun f=> !f.cancelled).map Xk/\(∀y∈ys,FxM W w.1.size y/\∃x∈xs,y=(Xk x.1,x.2))/\ob (Value.slice A ys.length c).ownBlock
 bl:Below w.1.size w W
 le:sz<=W.1.size
theorem OfI.own{xs:List Fx}{w:World}{p0 sz:Nat}{ob:Option Nat->Prop}(hsz:w.1.size<=sz):OwnFrom sz (fun pre W=>OfI (xs:=xs) w p0 sz pre W ob):=by
 rintro pre W W' row ⟨⟨A,c,ys,h1,h2,h3,h4,h5⟩,hb,hle⟩ hg hr;have hbb:=Qn (B:=w.1.size) hg (by omega) hsz (fun r e=>(hr r e).1);exact⟨⟨A,c,ys,h1.turned hg hr,h2.turned hg hr,h3,fun y hy=>⟨(h4 y hy).1.below hbb,(h4 y hy).2⟩,h5⟩,hb.trans hbb,Nat.le_trans hle hg.size⟩
theorem ZiD{ys xs:List Fx}(hp:ys.Perm xs)(ho:∀(i j:Nat) (x y:Fx),i<j->ys[i]?=some x->ys[j]?=some y->¬bef y.1 x.1)(hd:DK (xs.map (·.1))):ys.map (·.1)=JN (xs.map (·.1)):=by
 have hdy:DK (ys.map (·.1)):=((hp.map (·.1)).pairwise_iff (fun h=>Ne.symm h)).2 hd;refine Zha ?_ (Za4 hd) fun f=>by rw[JB,(hp.map (·.1)).mem_iff]
 rw[Srt,List.pairwise_iff_getElem];intro i j hi hj hij;rw[List.length_map] at hi hj;have hk:=List.pairwise_iff_getElem.1 hdy i j (by simpa using hi) (by simpa using hj) hij;rw[List.getElem_map,List.getElem_map] at hk ⊢
 rcases ZbJ hk with h|h
 ·exact h
 ·exact absurd h (ho i j _ _ hij (List.getElem?_eq_getElem hi) (List.getElem?_eq_getElem hj))
theorem Zk8(A:Option Addr)(n c:Nat)(xs:List Fx)(k:Int)(w:World)(hp:Env w)(hcap:n<=c)(hnil:A=none->c=0)(hs:Fxs w w.1.size A n xs)(hn:n<=100000):
 Calls Tryz.prog 8 #[.slice A n c,.int .i64 k] w (OfPost xs (ofV (xs.map (·.1)) k).1 (ofV (xs.map (·.1)) k).2 w):=by
 have HLC:=jq (Zff A n c xs w hp hs (by omega));have hof:ofV (xs.map (·.1)) k=if Zbx (xs.map (·.1))≠0 then([],1) else if k<0\/((xs.map (·.1)).length:Int)<k then([],2) else(vwL ((xs.map (·.1)).take k.toNat),0):=rfl
 rw[List.length_map,<-hs.len] at hof;have HB:=jq (Below.refl w.1.size w);generalize Zbx (xs.map (·.1))=lc at*;generalize ofV (xs.map (·.1)) k=res at*
 by_cases h0:lc=0
 case neg=>
  rw[if_pos h0] at hof;have HRS:=jq hof;have hz:(lc !=0)=true:=by simp[h0]
  generalize hpo:OfPost xs res.1 res.2 w=post at*;have HPO:=jq hpo;clear hof h0 hs hp hpo;go_enter Tryz.func8,Tryz.ntmps8
  go_wp2_with (go_at_call 27;refine HLC.out.mono ?_;rintro e w1 ⟨rfl,hb1⟩)
  first|go_ret2|skip
  rw[<-HPO.out,HRS.out];exact OfPost.empty hb1
 rw[if_neg (by simpa using h0)] at hof;subst h0
 by_cases hk0:k<0
 ·rw[if_pos (.inl hk0)] at hof;have HRS:=jq hof;generalize hpo:OfPost xs res.1 res.2 w=post at*;have HPO:=jq hpo;clear hof hs hp hpo;go_enter Tryz.func8,Tryz.ntmps8
  go_wp2_with (go_at_call 27;refine HLC.out.mono ?_;rintro e w1 ⟨rfl,hb1⟩)
  first|go_ret2|skip
  rw[<-HPO.out,HRS.out];exact OfPost.empty hb1
 by_cases hk1:(n:Int)<k
 ·rw[if_pos (.inr hk1)] at hof;have HRS:=jq hof;generalize hpo:OfPost xs res.1 res.2 w=post at*;have HPO:=jq hpo;clear hof hs hp hpo;go_enter Tryz.func8,Tryz.ntmps8
  go_wp2_with (go_at_call 27;refine HLC.out.mono ?_;rintro e w1 ⟨rfl,hb1⟩)
  first|go_ret2|skip
  rw[<-HPO.out,HRS.out];exact OfPost.empty hb1
 rw[if_neg (by omega)] at hof;obtain⟨kn,rfl⟩:∃kn:Nat,k=kn:=⟨k.toNat,by omega⟩
 rw[Int.toNat_natCast] at hof;subst hof;have hkn:kn<=n:=by omega
 have HXK:=jq (fun W (hb:Below w.1.size w W)=>(hs.below hb).upto hkn);have HTK:=jq (show(xs.map (·.1)).take kn=(xs.take kn).map (·.1) from(List.map_take ..).symm);rw[HTK.out];have hkc:kn<=c:=by omega
 have hnm:A=none->kn=0:=fun h=>by have:=hnil h;omega
 generalize hpo:OfPost xs (vwL ((xs.take kn).map (·.1)),(0:Int)).1 (vwL ((xs.take kn).map (·.1)),(0:Int)).2 w=post;have HPO:=jq (show post=OfPost xs (vwL ((xs.take kn).map (·.1))) 0 w from hpo.symm);clear hpo;have hle:¬((n:Int)<(kn:Int)):=by omega
 have hkd:decide ((kn:Int)<0)=false:=decide_eq_false (by omega);clear hs HTK;refine(callsIn_wide (n:=6)).1 ?_;refine callsIn_of_wp_marks Tryz.func8 rfl trivial ?_ rfl;simp only[Tryz.ntmps8,List.size_toArray,List.length_cons,List.length_nil,Nat.reduceAdd,Nat.reduceSub,Array.replicate_succ,Array.replicate_zero,List.push_toArray,List.append_toArray,List.nil_append,List.cons_append]
 gi_wp2_with (first
  |(refine⟨trivial,(callsIn_wide.2 HLC.out).mono ?_⟩;rintro e w1 ⟨rfl,hb1⟩)
  |(refine⟨trivial,(callsIn_wide.2 (Zgz A kn c _)).mono ?_⟩;rintro e w2 ⟨rfl,rfl⟩))
 have hB1:=((Below.refl w1.1.size w1).alloc (Nat.le_refl _) (.cells #[.slice none 0 0] 22)).alloc (by simp) (.cells #[.slice A kn c] 22);have hsz2:((w1.alloc (.cells #[.slice none 0 0] 22)).alloc (.cells #[.slice A kn c] 22)).heap.size=w1.1.size+2:=by simp
 have hbx0:=(Box.new w1 22 (.slice none 0 0)).alloc (.cells #[.slice A kn c] 22);have hbxl:=Box.new (w1.alloc (.cells #[.slice none 0 0] 22)) 22 (.slice A kn c);simp only[World.size_alloc] at hbxl;have hbw:=hb1.trans (hB1.mono hb1.size);have h1s:=hb1.size;generalize (w1.alloc (.cells #[.slice none 0 0] 22)).alloc (.cells #[.slice A kn c] 22)=W2 at*;generalize hl:w1.1.size+1=bl at*;generalize h0':w1.1.size=p0 at*;have HBW:=jq hbw;have HBX0:=jq hbx0;have HSZ:=jq (show W2.1.size=p0+2/\w.1.size<=p0 from⟨hsz2,by omega⟩);have HXK2:=jq (HXK.out W2 hbw);have HSEQ:=jq (Zfw 5 (by omega) (fun b=>b=p0) 43 w.1.size bl w.1.size A kn c (xs.take kn) W2 hbxl hbw.size HXK2.out (by omega) (fun b h=>by omega) (fun b hb h=>by omega) (by decide) (by decide) (by decide) (Nat.le_refl _));clear HLC hb1 hB1 hsz2 hbx0 hbxl hbw h1s hle hkd hnm hkc hk0 hk1
 refine Xa (α:=InE (xs.take kn)) (F:=Fence.wide) (n:=6) rfl (by omega) (gf:=55) (lb:=#[.pointer (some ⟨bl,0,none⟩)]) rfl trivial (enters_of Tryz.func55 (by kernel_rfl) rfl)
  HSEQ.out (fun b h=>by have:=HSZ.out;omega) (Below.refl _ _) (fun _=>rfl)
  (fun pre W=>OfI w p0 W2.1.size pre W fun _=>True) (fun _ _=>False) (OfI.own HBW.out.size) (fun _ _ _ _ h _ _=>h)
  ⟨⟨none,0,[],HBX0.out,Own.nil,rfl,fun y hy=>(by cases hy),trivial⟩,HBW.out,Nat.le_refl _⟩
  (fun pre x a' Wr=>∃Bx,OfI w p0 W2.1.size pre Wr (fun r=>r≠some Bx)/\W2.1.size<=Bx/\BlkB Wr Bx (Qb x.1.1 x.1.2) 43/\a'={tmps:=#[.slice A n c,.int .i64 (kn:Nat),undef,undef,.slice none 0 0,.int .i64 0,.pointer (some ⟨p0,0,none⟩),.pointer (some ⟨Bx,0,none⟩),.slice A n c,.int .i64 0,.bool false,.int .i64 (kn:Nat),.bool false,.bool false,.int .i64 (kn:Nat),.slice A n c,.int .i64 (n:Nat),.bool false,.bool false,.slice A n c,.int .i64 (kn:Nat),.slice A kn c,.func (.func 55) #[] #[.pointer (some ⟨bl,0,none⟩)],.agg (Qb x.1.1 x.1.2),undef,undef,undef,undef,undef,undef,undef,undef,undef,undef,undef],defers:=[]})
  (fun pre x a' _ Wr Wr' row ⟨Bx,hi,h1,h2,h3⟩ hg hr=>⟨Bx,OfI.own HBW.out.size _ _ _ _ hi hg hr,h1,XR h2 hg hr,h3⟩) ?assign ?body ?done ?stop
 case stop=>intro D pre W' _ h;exact h.elim
 case assign=>
  rintro lr pre x Wr K hI hK;obtain⟨⟨f,v⟩,hx⟩:=x
  have hst:=fun cs (hc:cs.size=21)=>QB Wr f v (cs:=cs) hc
  have HI:=jq hI;clear hI
  dsimp only
  gi_wp2
  obtain⟨⟨A1,c1,ys,h1,h2,h3,h4,_⟩,h5,h6⟩:=HI.out
  exact hK _ _ (KpX.below ((Below.refl _ Wr).alloc (Nat.le_refl _) _)) ⟨Wr.1.size,⟨⟨A1,c1,ys,h1.alloc _,h2.alloc _,h3,fun y hy=>⟨(h4 y hy).1.below ((Below.refl _ Wr).alloc h5.size _),(h4 y hy).2⟩,fun e=>by
   obtain⟨_,_,_,_,_,_,h7⟩:=h2.form
   have:=(h7 _ e).2.2
   omega⟩,h5.alloc h5.size _,by simp;omega⟩,h6,heap_alloc_new Wr _,rfl⟩
 case body=>
  rintro lr pre x a' Wr ⟨Bx,⟨⟨A1,c1,ys,hbx,hown,hys,hym,hne⟩,hbl,hle⟩,hBx,bX,rfl⟩ hlen;obtain⟨⟨f,v⟩,hx⟩:=x
  have q2:=bX.cell 2 (show(Qb f v)[2]?=some (.bool f.cancelled) from rfl);have HBXP:=jq hbx;have HOW:=jq hown;have HYS:=jq hys;have HYM:=jq hym;have HBL:=jq hbl;have HLE:=jq hle;have HBXX:=jq bX;have HNE:=jq hne;have HBG:=jq hBx
  cases hcn:f.cancelled with
  |true=>
   rw[hcn] at q2;have HC:=jq hcn;clear hbx hown hys hym hbl hle bX hne hBx hcn hlen
   gi_wp2
   refine⟨KpX.refl _,⟨A1,c1,ys,HBXP.out,HOW.out,?_,HYM.out,trivial⟩,HBL.out,HLE.out⟩;rw[HYS.out,XU,List.filter_append,List.filter_cons_of_neg (by simp[HC.out]),List.filter_nil,List.append_nil]
  |false=>
   rw[hcn] at q2;have HC:=jq hcn;have hp0:=HSZ.out;have q1:=bX.cell 1 (show(Qb f v)[1]?=some (.int .i64 f.stamp) from rfl);have f1:=bX.frozen 1;have hbx3:=hbx.far (p:=⟨Bx,1,none⟩) (show p0≠Bx by omega) (.int .i64 0);have cb3:=hbx3.cell;have bX3:=bX.set 1 (.int .i64 0);rw[Zaa] at bX3;have hl3:=Qj bX3 (Qg (Xk f) v);have hsz3:(Wr.setCell ⟨Bx,1,none⟩ (.int .i64 0)).heap.size=Wr.1.size:=by simp
   have hbf:=Vo (Wr.setCell ⟨Bx,1,none⟩ (.int .i64 0)) (Xk f) v;have hal:=heap_alloc_new (Wr.setCell ⟨Bx,1,none⟩ (.int .i64 0)) (.cells (Qb (Xk f) v) 43);rw[hsz3] at hbf hal;have hsl:=Za0 (f:=Xk f) (v:=v) hal;have hoa:=(hown.far (p:=⟨Bx,1,none⟩) hne (.int .i64 0)).alloc (.cells (Qb (Xk f) v) 43);have hbx4:=hbx3.alloc (.cells (Qb (Xk f) v) 43);have hbl3:=hbl.setCell (p:=⟨Bx,1,none⟩) (show w.1.size<=Bx by have:=hbl.size;have:=HBW.out.size;omega) (.int .i64 0);have hbl4:=hbl3.alloc hbl3.size (.cells (Qb (Xk f) v) 43);have hkx4:KpX (fun b=>b=p0) 43 w.1.size Wr ((Wr.setCell ⟨Bx,1,none⟩ (.int .i64 0)).alloc (.cells (Qb (Xk f) v) 43)):=(KpX.setT (by have:=HBW.out.size;omega) bX _).trans (KpX.below ((Below.refl _ _).alloc (Nat.le_refl _) _));have hsz4:((Wr.setCell ⟨Bx,1,none⟩ (.int .i64 0)).alloc (.cells (Qb (Xk f) v) 43)).heap.size=Wr.1.size+1:=by simp
   have hym4:∀y∈ys++[(Xk f,v)],FxM ((Wr.setCell ⟨Bx,1,none⟩ (.int .i64 0)).alloc (.cells (Qb (Xk f) v) 43)) w.1.size y/\∃x∈xs.take kn,y=(Xk x.1,x.2):=fun y hy=>by
    rcases List.mem_append.1 hy with hy|hy
    ·refine⟨(hym y hy).1.below (((Below.refl _ Wr).setCell (p:=⟨Bx,1,none⟩) (show w.1.size<=Bx by have:=hbl.size;have:=HBW.out.size;omega) _).alloc (by rw[hsz3];exact hbl.size) _),(hym y hy).2⟩
    ·rw[List.mem_singleton.1 hy];refine⟨(ZeL (HXK2.out.all _ hx)).below ⟨hbl4.os.trans HBW.out.os.symm,hbl4.tape.trans HBW.out.tape.symm,hbl4.output.trans HBW.out.output.symm,by rw[hsz4];omega,fun k hk=>(hbl4.block k hk).trans (HBW.out.block k hk).symm⟩,(f,v),hx,rfl⟩
   generalize (Wr.setCell ⟨Bx,1,none⟩ (.int .i64 0)).alloc (.cells (Qb (Xk f) v) 43)=W4 at*;have HSL:=jq hsl;have HOA:=jq hoa;have HBX4:=jq hbx4;have HBL4:=jq hbl4;have HKX4:=jq hkx4;have HYM4:=jq hym4
   have HLL:=jq (show ys.length+1<=100000000000/\Wr.1.size<=W4.1.size by
    have h1:=congrArg List.length hys;rw[List.length_map,List.length_map] at h1;have h2:=List.length_filter_le (fun f:Fct=> !f.cancelled) (Xu pre);have h3:(Xu pre).length=pre.length:=by unfold Xu;rw[List.length_map]
    have h4:(xs.take kn).length<=kn:=by rw[List.length_take];omega
    omega)
   have hne2:43≠22:=by decide
   clear hbx hown hys hym hbl hle bX hne hBx hcn hlen hbx3 bX3 hp0 hsl hoa hbx4 hbl3 hbl4 hkx4 hym4 hal hsz3 hsz4
   gi_wp2_with (gi_at_builtin;refine VF _ rfl (.tmp 28) (.tmp 30) _ rfl QO Qc QV (base:=w.1.size) (.slice A1 ys.length c1) ys rfl HOA.out _ _ 1 1 [(Xk f,v)] rfl HSL.out HLL.out.1 HBL4.out.size ?_;intro A2 c2 w2 ho2 hg2 hat2;have hb2:=HBX4.out.grown hg2 (HOA.out.neBox HBX4.out hne2);have cb2:=hb2.cell;have fb2:=hb2.frozen)
   have hown2:∀g,(Value.slice A1 ys.length c1).ownBlock=some g->w.1.size<=g/\g≠p0:=fun g e=>by
    obtain⟨_,_,_,_,_,_,h5⟩:=HOA.out.form
    exact⟨(h5 g e).2.1,fun e2=>HOA.out.neBox HBX4.out hne2 (by rw[e,e2])⟩
   refine⟨?_,⟨A2,c2,ys++[(Xk f,v)],?_,?_,?_,?_,trivial⟩,?_,?_⟩
   ·refine HKX4.out.trans ((KpX.grown hg2 (fun r e=> ?_)).trans (KpX.set (E:=fun b=>b=p0) (p:=⟨p0,0,none⟩) rfl _));refine .inr ⟨(hown2 r e).1,?_⟩
    rcases HOA.out.2 with ⟨h0,_⟩|⟨g,cap,cur,h0,_,hgc,_⟩
    ·rw[h0] at e;cases e
    ·rw[h0] at e
     cases e
     exact⟨_,_,hgc⟩
   ·rw[List.length_append];exact hb2.set_ _
   ·rw[List.length_append];exact ho2.far (fun h=>ho2.neBox hb2 hne2 h.symm) _
   ·rw[List.map_append,HYS.out,XU,List.filter_append,List.map_append,List.filter_cons_of_pos (by simp[HC.out])];rfl
   ·exact fun y hy=>⟨(HYM4.out y hy).1.below ((Qn hg2 HBL4.out.size (Nat.le_refl _) (fun r e=>(hown2 r e).1)).setCell (p:=⟨p0,0,none⟩) HSZ.out.2 _),(HYM4.out y hy).2⟩
   ·exact(HBL4.out.trans (Qn hg2 HBL4.out.size (Nat.le_refl _) (fun r e=>(hown2 r e).1))).setCell (p:=⟨p0,0,none⟩) HSZ.out.2 _
   ·have:=hg2.size;have:=HLE.out;have:=HLL.out.2;simp at *; omega
 case done=>
  rintro D zs W' hD hS ⟨⟨A1,c1,ys,hbx,hown,hys,hym,_⟩,hbl,hle⟩ hK;have hne2:43≠22:=by decide
  have cb:=hbx.cell
  have hyl:ys.length<=100000:=by
   have h1:=congrArg List.length hys;rw[List.length_map,List.length_map,hS] at h1;have h2:=List.length_filter_le (fun f:Fct=> !f.cancelled) (Jb ((xs.take kn).map (·.1)));have h3:(Jb ((xs.take kn).map (·.1))).length<=((xs.take kn).map (·.1)).reverse.length:=JF _ _;have h4:(xs.take kn).length<=kn:=by rw[List.length_take];omega
   rw[List.length_reverse,List.length_map] at h3;omega
  have HSO:=jq (ZgC A1 c1 ys w W' hp hbl hown (fun y hy=>(hym y hy).1.sz.kind) hyl)
  have HRES:=jq (show ∀zs:List Fx,zs.Perm ys->(∀(i j:Nat) (x y:Fx),i<j->zs[i]?=some x->zs[j]?=some y->¬bef y.1 x.1)->zs.map (·.1)=vwL ((xs.take kn).map (·.1)) from fun zs h1 h2=>by
   rw[ZiD h1 h2 (by rw[hys,hS];exact Zhb _),hys,hS];rfl)
  have HBX:=jq hbx;have HOW:=jq hown;have HYM:=jq hym;have HBL:=jq hbl;have HKD:=jq hK;have HDD:=jq hD;clear hbx hown hys hym hbl hle hS hK hD
  gi_wp2_with (refine⟨trivial,(callsIn_wide.2 HSO.out).mono ?_⟩;rintro e W3 ⟨rfl,hg3,ys3,hpm3,hso3,hown3⟩;have hb3:=HBX.out.grown hg3 (HOW.out.neBox HBX.out hne2);have cb3:=hb3.cell)
  have hl3:ys3.length=ys.length:=hpm3.length_eq
  have hob:∀g,(Value.slice A1 ys.length c1).ownBlock=some g->w.1.size<=g/\∃cs fz,W'.heap[g]?=some (.cells cs 43 fz):=fun g e=>by
   rcases HOW.out.2 with ⟨h0,_⟩|⟨g',cap,cur,h0,hb,hgc,_⟩
   ·rw[h0] at e;cases e
   ·rw[h0] at e
    cases e
    exact⟨hb,_,_,hgc⟩
  have hKD:W3.heap[D]?=some (.deferred (some [])):=(hg3.block D (Array.getElem?_eq_some_iff.1 HKD.out).1 (fun e=>by
   obtain⟨_,cs,fz,h⟩:=hob D e.symm
   rw[HKD.out] at h
   cases h)).trans HKD.out
  have hbl3:=HBL.out.trans (Qn hg3 HBL.out.size (Nat.le_refl _) (fun r e=>(hob r e).1));have hput:=grownBy_putObj' W3 D (.deferred none);have hD2:=HDD.out;have hs2:=HBW.out.size;have hblp:=hbl3.trans (Qn hput hbl3.size (Nat.le_refl _) (fun r e=>by cases e;omega));refine⟨by simp,.inl ⟨_,_,rfl,run_takeDeferred hKD,?_⟩⟩;refine⟨_,results_tmp2 rfl _ _ _,?_⟩;rw[HPO.out];have hown4:=hown3.turned hput (B:=w.1.size) (fun r e=>by cases e;exact⟨by omega,_,hKD,rfl⟩);have hfm:=hown3.room;refine⟨A1,c1,ys3,by rw[hl3];rfl,⟨hown4.sl Qc,fun y hy=> ?_⟩,HRES.out ys3 hpm3 hso3,⟨hfm.1,hfm.2.1,hfm.2.2,fun y hy=> ?_⟩,hblp,?_⟩
  rotate_left 2
  ·intro y hy;obtain⟨x,hx,e⟩:=(HYM.out y (hpm3.mem_iff.1 hy)).2
   exact⟨x,List.mem_of_mem_take hx,e⟩
  all_goals have h5:=(HYM.out y (hpm3.mem_iff.1 hy)).1.below (Qn hg3 HBL.out.size (Nat.le_refl _) (fun r e=>(hob r e).1))
  ·exact(h5.below (Qn hput hbl3.size (Nat.le_refl _) (fun r e=>by cases e;omega))).more hblp.size
  ·exact h5.below (Qn hput hbl3.size (Nat.le_refl _) (fun r e=>by cases e;omega))
theorem Zfx(A:Option Addr)(n c:Nat)(xs:List Fx)(k:Int)(w:World)(hp:Env w)(hcap:n<=c)(hnil:A=none->c=0)(hs:Fxs w w.1.size A n xs)(hn:n<=100000):
 Calls Tryz.prog 8 #[.slice A n c,.int .i64 k] w (FsPost (ofV (xs.map (·.1)) k).1 (ofV (xs.map (·.1)) k).2 w):=
 (Zk8 A n c xs k w hp hcap hnil hs hn).mono fun _ _ h=>h.fs
end
end Go.Proofs.YtmfjmngebldanaaGreatDoor
