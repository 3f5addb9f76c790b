/- Eop, Ex7. -/
import Derived.Test.YtokjnjdbnabchaaGreatDoorQGEo42
import Derived.Test.YtokjnjdbnabchaaGreatDoorQGEo36
set_option maxRecDepth 20000
set_option maxHeartbeats 1000000
namespace Go.Proofs.YtokjnjdbnabchaaGreatDoor
open Go.Lib renaming hid→jq
section
open Go.RowKit Go.Shelf
attribute [local go_sem] Oper.semAt_some
attribute [local go_sem ↓] Go.wp_at_zero Go.wp_at_succ Qv QI
def thP(d:Int)(a b:Ky)(f:Fct):Bool:=f.kind==16&&f.cur==a&&f.other==b&&decide (f.day<=d)
def thV(d:Int)(v:List Fct)(a b:Ky):Bool:=v.any (thP d a b)
theorem ZhK(x:Fct)(u:FaV)(a b:Ky)(d:Int)(pa pb pd:Nat)(W:World)(ha:BlkB W pa #[.string ⟨a.toArray⟩] 9)(hb:BlkB W pb #[.string ⟨b.toArray⟩] 9)(hd:BlkB W pd #[.int .i64 d] 23):
 Calls Tryz.prog 22 (#[.agg (Qe x u)]++#[.pointer (some ⟨pa,0,none⟩),.pointer (some ⟨pb,0,none⟩),.pointer (some ⟨pd,0,none⟩)]) W fun e w'=>e=.returned (.bool (thP d a b x))/\Below W.1.size W w':=by
 have HBL:=jq ((Below.refl W.1.size W).alloc (Nat.le_refl _) (.cells (Qe x u) 44));have c3:(W.alloc (.cells (Qe x u) 44)).cell? ⟨W.1.size,3,none⟩=some (.int .i64 x.day):=(cell_of_row _ _ 3 _ _ _ (heap_alloc_new W _)).trans rfl;have c4:(W.alloc (.cells (Qe x u) 44)).cell? ⟨W.1.size,4,none⟩=some (.int .i64 x.kind):=(cell_of_row _ _ 4 _ _ _ (heap_alloc_new W _)).trans rfl;have c6:(W.alloc (.cells (Qe x u) 44)).cell? ⟨W.1.size,6,none⟩=some (.string ⟨x.other.toArray⟩):=(cell_of_row _ _ 6 _ _ _ (heap_alloc_new W _)).trans rfl;have c7:(W.alloc (.cells (Qe x u) 44)).cell? ⟨W.1.size,7,none⟩=some (.string ⟨x.cur.toArray⟩):=(cell_of_row _ _ 7 _ _ _ (heap_alloc_new W _)).trans rfl;have ka:=(ha.alloc (.cells (Qe x u) 44)).cell 0 (show(#[.string ⟨a.toArray⟩]:Array Value)[0]?=some (.string ⟨a.toArray⟩) from rfl);have kb:=(hb.alloc (.cells (Qe x u) 44)).cell 0 (show(#[.string ⟨b.toArray⟩]:Array Value)[0]?=some (.string ⟨b.toArray⟩) from rfl);have kd:=(hd.alloc (.cells (Qe x u) 44)).cell 0 (show(#[.int .i64 d]:Array Value)[0]?=some (.int .i64 d) from rfl);have hth:thP d a b x=(x.kind==16&&x.cur==a&&x.other==b&&decide (x.day<=d)):=rfl;have HTH:=jq hth;generalize Qe x u=xb at*;generalize thP d a b x=res at*;clear ha hb hd hth
 show Calls _ _ #[.agg xb,.pointer (some ⟨pa,0,none⟩),.pointer (some ⟨pb,0,none⟩),.pointer (some ⟨pd,0,none⟩)] _ _
 cases e1:(x.kind==16)
 case' true=>cases e2:(x.cur==a)
 case' true.true=>cases e3:(x.other==b)
 case' true.true.true=>by_cases e4:x.day<=d
 all_goals
  go_enter Tryz.func22,Tryz.ntmps22
  go_wp2_with fail
  first|go_ret|skip
  rw[HTH.out]
  first
   |exact⟨by simp_all,HBL.out⟩
   |exact⟨by simp[*],HBL.out⟩
theorem ZhL(A:Option Addr)(n c:Nat)(xs:List Fx)(a b:Ky)(d:Int)(pv pd:Nat)(w:World)(hp:Env w)(hs:Fxs w w.1.size A n xs)(hn:n<=1000000)(hv:BlkB w pv #[.slice A n c] 22)(hd:BlkB w pd #[.int .i64 d] 23):
 Calls Tryz.prog 20 (#[.string ⟨a.toArray⟩,.string ⟨b.toArray⟩]++#[.pointer (some ⟨pv,0,none⟩),.pointer (some ⟨pd,0,none⟩)]) w fun e w'=>e=.returned (.bool (thV d (xs.map (·.1)) a b))/\Below w.1.size w w':=by
 have hres:xs.any (fun x=>thP d a b x.1)=thV d (xs.map (·.1)) a b:=by unfold thV;rw[List.any_map];rfl
 have H:=jq (((Kp.start hp).new w.1.size rfl #[.string ⟨a.toArray⟩] 9).new (w.alloc (.cells #[.string ⟨a.toArray⟩] 9)).heap.size rfl #[.string ⟨b.toArray⟩] 9);have hb1:Below w.1.size w ((w.alloc (.cells #[.string ⟨a.toArray⟩] 9)).alloc (.cells #[.string ⟨b.toArray⟩] 9)):=H.out.bl
 have HCF:=jq (Zab 22 #[.pointer (some ⟨w.1.size,0,none⟩),.pointer (some ⟨(w.alloc (.cells #[.string ⟨a.toArray⟩] 9)).heap.size,0,none⟩),.pointer (some ⟨pd,0,none⟩)] (fun x=>thP d a b x.1) A n c xs _ (enters_of Tryz.func22 (by kernel_rfl) rfl)
  (fun W x u _ hW=>ZhK x u a b d w.1.size (w.alloc (.cells #[.string ⟨a.toArray⟩] 9)).heap.size pd W ((H.out.here hW).blk _ (List.mem_cons_of_mem _ (List.mem_cons_self ..))) ((H.out.here hW).blk _ (List.mem_cons_self ..)) ((hd.here hb1).here hW)) (hs.here hb1) (by omega))
 rw[hres] at HCF;generalize thV d (xs.map (·.1)) a b=res at*;have kv:=(hv.here hb1).cell 0 (show(#[.slice A n c]:Array Value)[0]?=some (.slice A n c) from rfl);have hsz:(w.alloc (.cells #[.string ⟨a.toArray⟩] 9)).heap.size=w.1.size+1:=by simp
 rw[hsz] at HCF;clear hp hs hv hd hb1 hres
 show Calls _ _ #[.string ⟨a.toArray⟩,.string ⟨b.toArray⟩,.pointer (some ⟨pv,0,none⟩),.pointer (some ⟨pd,0,none⟩)] _ _
 go_enter Tryz.func20,Tryz.ntmps20
 go_wp2_with fail
 refine HCF.out.mono ?_;rintro e w1 ⟨rfl,hb1⟩;go_wp2_with fail
 first|go_ret|skip
 exact⟨rfl,(H.out.here hb1).bl⟩
end
section
open Go
theorem Zac(v:List Fct)(d:Int)(a b:Ky):QA v d [a,b]=QA v d [b,a]:=by
 unfold QA;rw[show[a,b].any (fun s=> !Qp s)=[b,a].any (fun s=> !Qp s) by simp[Bool.or_comm]]
theorem Ziv{v:List Fct}{d:Int}{cs ds:List Ky}(h:QA v d cs=0)(hd:∀s∈ds,s∈cs):QA v d ds=0:=by
 obtain⟨h1,h2,h3,h4⟩:=QB h
 unfold QA;rw[if_neg (by rw[(ZaM v).2 h1];simp),if_neg (by omega),if_neg];intro hc;obtain⟨s,hs,h5⟩:=List.any_eq_true.1 hc
 rw[h4 s (hd s hs)] at h5
 cases h5
theorem Zgw{d:Int}{v:List Fct}{a b:Ky}:thV d v a b=true↔(Vw d v (a,b)).isSome=true:=by
 rw[Zdk];unfold thV thP isR;rw[List.any_eq_true]
 constructor
 ·rintro⟨f,hf,h⟩;simp only[Bool.and_eq_true,beq_iff_eq,decide_eq_true_eq] at h;exact⟨f,hf,by simp[h.1.1.1,h.2],by rw[h.1.1.2,h.1.2]⟩
 ·rintro⟨f,hf,h1,h2⟩;simp only[Bool.and_eq_true,beq_iff_eq,decide_eq_true_eq] at h1;obtain⟨e1,e2⟩:=Prod.mk.inj h2
  refine⟨f,hf,?_⟩;simp only[Bool.and_eq_true,beq_iff_eq,decide_eq_true_eq];exact⟨⟨⟨h1.1,e1.symm⟩,e2.symm⟩,h1.2⟩
theorem Zd1{d:Int}{v:List Fct}{a b:Ky}:(XQ d v (a,b)).isSome=(XQ d v (b,a)).isSome:=by
 rw[Bool.eq_iff_iff,JX,JX]
 constructor<;>(rintro⟨f,hf,h1,h2⟩;refine⟨f,hf,h1,?_⟩;rcases h2 with h2|h2<;>(obtain⟨e1,e2⟩:=Prod.mk.inj h2;rw[e1,e2];simp))
theorem Zgx:(Qd 1).Sz 20000:=XZ (L:=1) ⟨by decide,by decide⟩ (by decide)
theorem Zd2{v:List Fct}{d:Int}{a b:Ky}(h:QA v d [a,b]=0):raR d v a a=(Qd 1,0):=by
 have h1:QA v d [a,a]=0:=Ziv h (fun s hs=>by simp at hs;simp[hs]);have h2:Vu d v a a=[a]:=ZhD _ _ a;unfold raR;rw[if_neg (by simpa using h1),h2,if_neg (by simp)];rfl
structure OppL (d:Int) (v:List Fct) (a b:Ky):Prop where
 err:(JY d v b a).2=(JY d v a b).2
 is:(JY d v b a).1.2=(JY d v a b).1.2
 zero:(JY d v a b).2≠0->(JY d v a b).1.1=Fr.zero/\(JY d v b a).1.1=Fr.zero
 self:(JY d v a b).2=0->raR d v a a=(Qd 1,0)
 prod:(JY d v a b).2=0->(JY d v a b).1.2=true->¬(thV d v a b=true/\thV d v b a=true)->(JY d v a b).1.1.Sz 20000/\(JY d v b a).1.1.Sz 20000/\(JY d v a b).1.1.rat*(JY d v b a).1.1.rat=1
theorem ZeK(d:Int)(v:List Fct)(a b:Ky):OppL d v a b:=by
 by_cases h:QA v d [a,b]=0
 case neg=>
  have h2:QA v d [b,a]≠0:=by rw[<-Zac];exact h
  have e1:JY d v a b=((Fr.zero,false),QA v d [a,b]):=if_pos h;have e2:JY d v b a=((Fr.zero,false),QA v d [b,a]):=if_pos h2;refine⟨?_,?_,fun _=> ?_,fun h3=> ?_,fun h3=> ?_⟩
  ·rw[e1,e2,Zac]
  ·rw[e1,e2]
  ·rw[e1,e2];exact⟨rfl,rfl⟩
  ·rw[e1] at h3;exact absurd h3 h
  ·rw[e1] at h3;exact absurd h3 h
 have h2:QA v d [b,a]=0:=by rw[<-Zac];exact h
 have hv:=(QB h).1;have e1:JY d v a b=(if a=b then(Qd 1,true) else((XQ d v (a,b)).getD Fr.zero,(XQ d v (a,b)).isSome),0):=if_neg (by simpa using h);have e2:JY d v b a=(if b=a then(Qd 1,true) else((XQ d v (b,a)).getD Fr.zero,(XQ d v (b,a)).isSome),0):=if_neg (by simpa using h2)
 by_cases hab:a=b
 ·subst hab;rw[if_pos rfl] at e1;refine⟨by rw[e1],by rw[e1],fun h3=> ?_,fun _=>Zd2 h,fun _ _ _=> ?_⟩
  ·rw[e1] at h3;exact absurd rfl h3
  ·rw[e1];refine⟨Zgx,Zgx,?_⟩
   show(Qd 1).rat*(Qd 1).rat=1
   rw[QR,Rat.one_mul]
 rw[if_neg hab] at e1;rw[if_neg (fun e=>hab e.symm)] at e2;refine⟨by rw[e1,e2],by rw[e1,e2];exact Zd1.symm,fun h3=> ?_,fun _=>Zd2 h,fun _ h4 h5=> ?_⟩
 ·rw[e1] at h3;exact absurd rfl h3
 rw[e1,e2];rw[e1] at h4
 dsimp only at h4 ⊢
 obtain⟨r1,hr1⟩:=Option.isSome_iff_exists.1 h4
 obtain⟨r2,hr2⟩:=Option.isSome_iff_exists.1 (Zd1.symm.trans h4)
 obtain⟨_,_,_,b1,n1⟩:=Zct hv hr1
 obtain⟨_,_,_,b2,n2⟩:=Zct hv hr2
 rw[hr1,hr2];refine⟨⟨Nat.le_trans b1.2.1 (by decide),Nat.le_trans b1.2.2 (by decide)⟩,⟨Nat.le_trans b2.2.1 (by decide),Nat.le_trans b2.2.2 (by decide)⟩,?_⟩
 show r1.rat*r2.rat=1
 rw[Zgw,Zgw] at h5;unfold XQ rtM at hr1 hr2
 cases q1:Vw d v (a,b) with
 |some x1=>
  cases q2:Vw d v (b,a) with
  |some x2=>exact absurd ⟨by rw[q1];rfl,by rw[q2];rfl⟩ h5
  |none=>
   have s2:sw (b,a)=(a,b):=rfl;rw[q1] at hr1;rw[q2,s2,q1] at hr2;obtain rfl:=Option.some.inj hr1;obtain rfl:=Option.some.inj hr2;rw[(Zdi b1 n1).2,Rat.div_def,Rat.one_mul,Rat.mul_inv_cancel _ n1]
 |none=>
  cases q2:Vw d v (b,a) with
  |some x2=>
   have s2:sw (a,b)=(b,a):=rfl;rw[q1,s2,q2] at hr1;rw[q2] at hr2;obtain rfl:=Option.some.inj hr1;obtain rfl:=Option.some.inj hr2;rw[(Zdi b2 n2).2,Rat.div_def,Rat.one_mul,Rat.inv_mul_cancel _ n2]
  |none=>
   have s2:sw (a,b)=(b,a):=rfl;rw[q1,s2,q2] at hr1
   cases hr1
end
end Go.Proofs.YtokjnjdbnabchaaGreatDoor
