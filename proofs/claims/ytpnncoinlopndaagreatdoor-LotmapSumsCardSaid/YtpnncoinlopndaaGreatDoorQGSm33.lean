/- Mq6, Ca, Rr, Lto. -/
import Derived.Test.YtpnncoinlopndaaGreatDoorQGSm25
import Derived.OrdersIn
import Derived.OrdersHeld
import Derived.Deep.RegionHeld
set_option maxRecDepth 100000
set_option maxHeartbeats 8000000
namespace Go.Proofs.YtpnncoinlopndaaGreatDoor
open Go.Lib renaming hid→hdz
section
open Go.RowKit Go.Shelf
attribute [local go_sem ↓] Go.wp_at_zero Go.wp_at_succ
theorem ZeH(A:Option Addr)(n c:Nat)(ls:List Lot)(m:Mp)(w:World)(hp:Env w)(hs:Lots w w.heap.size A n ls)(hl:∀x∈ls,x.Sz 50000)(hm:m.Sz 5000∨m.Bad)(hn:n≤1000000000):
 Calls Tryz.prog 24 #[.slice A n c,MpV m] w fun e w'=>e=.returned (.bool (decide (allC ls=0)&&decide (mpC m=0)))∧Below w.heap.size w w':=by
 have H:=hdz ((Kp.start hp).new w.heap.size rfl #[.string ⟨m.cause.toArray⟩,.int .i64 m.day,.string ⟨m.inst.toArray⟩,.string ⟨m.other.toArray⟩,.string ⟨m.ratio.n.toArray⟩,.string ⟨m.ratio.d.toArray⟩,.string ⟨m.share.n.toArray⟩,.string ⟨m.share.d.toArray⟩,.string ⟨m.price.n.toArray⟩,.string ⟨m.price.d.toArray⟩,.bool m.keep] 28)
 have HCA:=hdz (fun W (hb:Below w.heap.size w W)=>ZdG A n c ls W (hp.here hb) (hs.here hb) hl hn)
 have HMC:=hdz (fun W (hb:Below w.heap.size w W)=>Ziw m hm W (hp.here hb))
 clear hp hs hl hn hm
 generalize allC ls=za at*
 generalize mpC m=zm at*
 unfold MpV mpA at*
 unfold S at*
 by_cases ha:za=0
 ·have ha0:(za==0)=true:=by simp[ha]
  have hd:decide (za=0)=true:=by simp[ha]
  rw[hd]
  go_enter Tryz.func24,Tryz.ntmps24
  go_wp2_with fail
  generalize w.alloc _=W at*
  refine(HCA.out _ H.out.bl).mono ?_
  rintro e w1 ⟨rfl,hb⟩
  have H1:=hdz (H.out.here hb)
  clear H hb
  have c0:=H1.out.c 0 0 rfl rfl;have c1:=H1.out.c 0 1 rfl rfl;have c2:=H1.out.c 0 2 rfl rfl;have c3:=H1.out.c 0 3 rfl rfl;have c4:=H1.out.c 0 4 rfl rfl;have c5:=H1.out.c 0 5 rfl rfl;have c6:=H1.out.c 0 6 rfl rfl;have c7:=H1.out.c 0 7 rfl rfl;have c8:=H1.out.c 0 8 rfl rfl;have c9:=H1.out.c 0 9 rfl rfl;have c10:=H1.out.c 0 10 rfl rfl
  go_wp2_with fail
  refine(HMC.out _ H1.out.bl).mono ?_
  rintro e w2 ⟨rfl,hb⟩
  have HZ:=hdz (show(zm==0)=decide (zm=0) from rfl)
  go_wp2_with fail
  go_ret
  exact⟨by simp[HZ.out],(H1.out.here hb).bl⟩
 ·have ha0:(za==0)=false:=by simp[ha]
  have hd:decide (za=0)=false:=by simp[ha]
  rw[hd]
  go_enter Tryz.func24,Tryz.ntmps24
  go_wp2_with fail
  generalize w.alloc _=W at*
  refine(HCA.out _ H.out.bl).mono ?_
  rintro e w1 ⟨rfl,hb⟩
  go_wp2_with fail
  go_ret
  exact⟨by simp,(H.out.here hb).bl⟩
end
section
open Go.RowKit Go.Shelf
attribute [local go_sem ↓] Go.wp_at_zero Go.wp_at_succ Zce ZfI
def cashL(ls:List Lot)(m:Mp):List UInt8×Int:=
 if allC ls=0∧mpC m=0 then(txtL (planL (lotsOf ls m.inst) m).p.sum,0) else([],1)
def CashPost(r:List UInt8×Int)(w:World)(e:Ending)(w':World):Prop:=e=.returned (.tuple #[S r.1,.int .i64 r.2])∧Below w.heap.size w w'
theorem ZiP(W:World)(v:PlV):(Instr.field 60 (.agg (plB v)) 7).run Tryz.prog W=.ok v.p W:=by kernel_rfl
theorem ZlN{l:List Int}{K:Nat}(h:∀i,(l.getD i 0).natAbs<10^K):∀t∈l.map txtL,t.length≤K+1:=by
 intro t ht
 obtain⟨z,hz,rfl⟩:=List.mem_map.1 ht
 obtain⟨i,hi⟩:=List.getElem?_of_mem hz
 have:=h i
 rw[Zeo hi] at this
 exact Zab this
theorem ZlO(A:Option Addr)(n c:Nat)(ls:List Lot)(m:Mp)(w:World)(L:Nat)(hp:Env w)(hs:Lots w w.heap.size A n ls)(hn:n≤9999)(hl:∀y∈ls,y.Sz 50000)(hm:m.Sz 5000∨m.Bad)
 (hL:L≤100) (hL1:1≤L) (hq:∀y∈ls,y.q.length≤L) (hc:∀y∈ls,y.c.length≤L) (hr:m.ratio.Sz L) (hsh:m.share.Sz L) (hpr:m.price.Sz L):
 Calls Tryz.prog 18 #[.slice A n c,MpV m] w (CashPost (cashL ls m) w):=by
 have HPO:=hdz (show CashPost (cashL ls m) w=fun e w'=>e=.returned (.tuple #[S (cashL ls m).1,.int .i64 (cashL ls m).2])∧Below w.heap.size w w' from rfl)
 generalize CashPost (cashL ls m) w=post at*
 have HVA:=hdz (fun W (hb:Below w.heap.size w W)=>ZeH A n c ls m W (hp.here hb) (hs.here hb) hl hm (by omega))
 have HK0:=hdz ((Kp.start hp).new w.heap.size rfl (mpA m).toArray 28)
 rw[ZaM] at HK0
 unfold MpV
 rw[ZaM]
 unfold MpV at HVA
 rw[ZaM] at HVA
 obtain⟨z0,z1,z2,z3,z4,z5,z6,z7,z8,z9,z10⟩:=ZiT HK0.out (m:=m) (i:=0) rfl
 by_cases hv:allC ls=0∧mpC m=0
 ·have hlok:=(ZbA ls).1 hv.1;have hmok:=(Zel m).1 hv.2
  have HMV:=hdz (show cashL ls m=(txtL (planL (lotsOf ls m.inst) m).p.sum,0) from if_pos hv)
  rw[decide_eq_true hv.1,decide_eq_true hv.2] at HVA
  have HPR:=hdz (fun W (hb:Below w.heap.size w W)=>ZcR A n c ls m W L (hp.here hb) (hs.here hb) hlok hmok hL hL1 hq hc hr hsh hpr)
  unfold MpV at HPR
  rw[ZaM] at HPR
  have hlo:(lotsOf ls m.inst).length≤1000:=Nat.le_trans (Zbe ls m.inst) hlok.len
  have hplk:=Zds (ZaP hlok m.inst) hmok hlo hL1 (fun y hy=>hq y (List.mem_filter.1 hy).1) (fun y hy=>hc y (List.mem_filter.1 hy).1) hr hpr
  obtain⟨l1,l2,l3,l4⟩:=Za1 (lotsOf ls m.inst) m
  have HPK:=hdz hplk;have HL4:=hdz l4;have HLO:=hdz hlo;have HLL:=hdz hL
  generalize cashL ls m=mv at*
  clear hp hs hn hl hm hq hc hr hsh hpr hL hL1 hv hlok hmok hplk l1 l2 l3 l4 hlo
  unfold S at*
  go_enter Tryz.func18,Tryz.ntmps18
  go_wp2_with fail
  generalize w.alloc _=W0 at*
  refine(HVA.out _ HK0.out.bl).mono ?_
  rintro e w1 ⟨rfl,hb1⟩
  have HK1:=hdz (HK0.out.here hb1)
  clear hb1 HK0 HVA z0 z1 z2 z3 z4 z5 z6 z7 z8 z9 z10
  obtain⟨z0,z1,z2,z3,z4,z5,z6,z7,z8,z9,z10⟩:=ZiT HK1.out (m:=m) (i:=0) rfl
  go_wp2_with fail
  refine(HPR.out _ HK1.out.bl).mono ?_
  rintro e w2 ⟨v,pn,pm,pf,pp,rfl,hvm,hM,hb2⟩
  have HK2:=hdz (HK1.out.here hb2)
  have hfl:=ZiP w2 v
  rw[hM.ep] at hfl
  have HSA:=hdz (show Calls Tryz.prog 65 #[.slice (some ⟨pp,0,none⟩) v.on v.on] w2 fun e w'=>e=.returned (.string ⟨(txtL (planL (lotsOf ls m.inst) m).p.sum).toArray⟩)∧Below w2.heap.size w2 w' from by
   have h:=Zc3 (some ⟨pp,0,none⟩) v.on v.on ((planL (lotsOf ls m.inst) m).p.map txtL) w2 HK2.out.pw (ZaB hM.bp (by rw[HL4.out];exact hM.len.symm)) (fun t ht=>Nat.le_trans (ZlN HPK.out.p t ht) (by have:=HLL.out;omega)) (by rw[hM.len];have:=HLO.out;omega)
   rw[ZfK] at h
   exact h)
  clear z0 z1 z2 z3 z4 z5 z6 z7 z8 z9 z10 hM hb2 HK1 HPR hvm HPK HL4 HLO HLL
  generalize plB v=pb at*
  generalize v.on=N at*
  generalize txtL (planL (lotsOf ls m.inst) m).p.sum=tp at*
  go_wp2_with fail
  refine HSA.out.mono ?_
  rintro e w3 ⟨rfl,hb3⟩
  clear hfl HSA
  go_wp2_with fail
  first|go_ret|skip
  rw[HPO.out,HMV.out]
  exact⟨rfl,(HK2.out.here hb3).bl⟩
 ·have HMV:=hdz (show cashL ls m=([],1) from if_neg hv)
  have hvb:(decide (allC ls=0)&&decide (mpC m=0))=false:=by
   by_cases h1:allC ls=0
   ·rw[decide_eq_true h1,decide_eq_false (fun h2=>hv ⟨h1,h2⟩)];rfl
   ·rw[decide_eq_false h1];rfl
  rw[hvb] at HVA
  generalize cashL ls m=mv at*
  clear hp hs hn hl hm hq hc hr hsh hpr hL hL1 hv hvb
  unfold S at*
  go_enter Tryz.func18,Tryz.ntmps18
  go_wp2_with fail
  generalize w.alloc _=W0 at*
  refine(HVA.out _ HK0.out.bl).mono ?_
  rintro e w1 ⟨rfl,hb1⟩
  go_wp2_with fail
  first|go_ret|skip
  rw[HPO.out,HMV.out]
  exact⟨rfl,(HK0.out.here hb1).bl⟩
end
section
open Go.RowKit Go.Shelf
section
variable {P:Program} {ops:Array Oper} {Q:Exit→Act→World→Prop} {md:Region.Mode} {l n:Nat}
theorem Zkl{row:String}{args:Array Value}{w:World}{R:Value→World→Prop}(h:Rows P row args w R):RowsIn (Fence.wide.inRound l) n P row args w R:=
 fun c cs _=>let⟨v,w',r,s⟩:=h c cs;⟨v,w',r,stepsIn_wide.2 s⟩
theorem Zkm{o:Oper}{a:Act}{w:World}{K:Act→World→Prop}(hd:∀c,o.op≠ .defer c)(h:o.wp P a w K Q):o.wpIn (Fence.wide.inRound l) n P a w K Q:=by
 unfold Oper.wp at h
 unfold Oper.wpIn
 refine⟨fun _ _=>trivial,?_⟩
 rw[Oper.semAt_plain _ _ _ hd]
 generalize (execOp a.eval o).run P w=r at*
 cases r with
 |ok x w'=>
  cases x<;>simp only[Oper.upon,Oper.uponIn] at h ⊢
  case value v=>exact h
  case skip=>exact h
  case defer d=>exact h
  case enter f args=>exact⟨fun e=>(by cases e),CallsIn.inRound l ((callsIn_wide.2 h).mono fun e w'' he=>by cases e<;>exact he)⟩
  case row row args=>exact⟨fun e=>(by cases e),Zkl h⟩
 |halt x w'=>cases x<;>simp only[Oper.upon,Oper.uponIn] at h ⊢ <;>exact h
theorem Zm5{i:Nat}{a:Act}{w:World}{K:Act→World→Prop}(hd:∀o∈ops,∀c,o.op≠ .defer c)(hQ:¬LetsOut Q)(h:wpOp P ops Q i K a w):wpOpIn (Fence.wide.inRound l) n P ops Q i K a w:=by
 unfold wpOp at h
 unfold wpOpIn
 cases ho:ops[i]? with
 |none=>rw[ho] at h;exact h
 |some o=>
  rw[ho] at h
  simp only at h ⊢
  by_cases hw:Region.wanted o (yielded ops a.tmps)=true
  ·rw[if_pos hw] at h ⊢
   rcases h with h|⟨_,h⟩
   ·exact Zkm (hd o (Array.mem_of_getElem? ho)) h
   ·exact absurd h hQ
  ·rw[if_neg hw] at h ⊢
   exact⟨fun _ _=>trivial,h⟩
theorem Zh2(hd:∀o∈ops,∀c,o.op≠ .defer c)(hQ:¬LetsOut Q):∀(fuel:Nat) (listed:Array Bool) (a:Act) (w:World),wpAny P md ops Q fuel listed a w→wpAnyIn (Fence.wide.inRound l) n P md ops Q fuel listed a w
 |0,_,_,_,h=>h
 |fuel+1,_,_,_,h=>⟨h.1,fun i hi=>wpOpIn_mono (fun a' w' h'=>Zh2 hd hQ fuel _ a' w' h') (Zm5 hd hQ (h.2 i hi))⟩
def noDefer(ops:Array Oper):Bool:=ops.all fun o=>match o.op with| .defer _=>false|_=>true
theorem ZiQ{ops:Array Oper}(h:noDefer ops=true):∀o∈ops,∀c,o.op≠ .defer c:=by
 intro o ho c e
 unfold noDefer at h
 have:=Array.all_eq_true_iff_forall_mem.1 h o ho
 rw[e] at this
 cases this
theorem Zgz{S:World→Prop}{id:Nat}{a:Act}{w:World}(hm:P.follows .mixedOrders=true)(hd:noDefer ops=true)(hQ:¬LetsOut Q)
 (h:wpAnyH P .any ops Q S ops.size (Array.replicate ops.size false) a w.drew):(Code.region id ops true).wpIn (Fence.wide.inRound l) n P Q a w:=
 wpIn_region_any hm (Zh2 (ZiQ hd) hQ _ _ _ _ (wpAny_of_held _ _ _ _ h))
end
end
section
open Go.RowKit Go.Shelf
attribute [local go_sem] Oper.semAt_some
def sumF(g:Lot→List UInt8)(l:List Lot):Int:=(l.map (fun z=>val (g z))).sum
theorem ZgA(g:Lot→List UInt8)(l:List Lot)(x:Lot):sumF g (l++[x])=sumF g l+val (g x):=by
 unfold sumF
 rw[List.map_append,ZaE]
 simp
theorem ZfN{g:Lot→List UInt8}{l:List Lot}{L:Nat}(h:∀x∈l,(g x).length≤L)(hn:l.length≤9999):(txtL (sumF g l)).length≤L+5:=by
 have e:sumF g l=sumV (l.map g):=by unfold sumF sumV;rw[List.map_map];rfl
 rw[e]
 exact Zfn (fun y hy=>by obtain⟨x,hx,rfl⟩:=List.mem_map.1 hy;exact h x hx) (by simpa using hn)
def TotPost(a b:List UInt8)(w:World)(e:Ending)(w':World):Prop:=e=.returned (.tuple #[S a,S b])∧Below w.heap.size w w'
theorem Zkn(A:Option Addr)(n c:Nat)(xs:List Lot)(i:List UInt8)(w:World)(hp:Env w)(hs:Lots w w.heap.size A n xs)(hn:n≤9999)(hq:∀x∈xs,x.q.length≤50000)(hc:∀x∈xs,x.c.length≤50000):
 Calls Tryz.prog 66 #[.slice A n c,S i] w (TotPost (txtL (totL xs i (fun z=>val z.q))) (txtL (totL xs i (fun z=>val z.c))) w):=by
 have HPO:=hdz (show TotPost (txtL (totL xs i (fun z=>val z.q))) (txtL (totL xs i (fun z=>val z.c))) w=fun e w'=>e=.returned (.tuple #[.string ⟨(txtL (sumF (·.q) (lotsOf xs i))).toArray⟩,.string ⟨(txtL (sumF (·.c) (lotsOf xs i))).toArray⟩])∧Below w.heap.size w w' from rfl)
 generalize TotPost (txtL (totL xs i (fun z=>val z.q))) (txtL (totL xs i (fun z=>val z.c))) w=post at*
 have HP:=hdz hp
 have HLO:=hdz (fun W=>Zju A n c i W)
 have HLL:=hdz (show(lotsOf xs i).length≤9999 from Nat.le_trans (List.length_filter_le _ _) (by rw[←hs.1];exact hn))
 have HQ:=hdz (show ∀x∈lotsOf xs i,x.q.length≤50000 from fun x hx=>hq x (List.mem_filter.1 hx).1)
 have HC:=hdz (show ∀x∈lotsOf xs i,x.c.length≤50000 from fun x hx=>hc x (List.mem_filter.1 hx).1)
 have HS:=hdz hs
 have HN:=hdz (show n≤1000000 by omega)
 have b1:=Box.new w 24 (.string ⟨#[]⟩)
 have b2:=Box.new (w.alloc (.cells #[.string ⟨#[]⟩] 24)) 24 (.string ⟨#[]⟩)
 have HB2:=hdz (show Box ((w.alloc (.cells #[.string ⟨#[]⟩] 24)).alloc (.cells #[.string ⟨#[]⟩] 24)) (w.heap.size+1) 24 (.string ⟨#[]⟩) by simpa using b2)
 have HB1:=hdz (b1.alloc (.cells #[.string ⟨#[]⟩] 24))
 have HBW:=hdz (show Below w.heap.size w ((w.alloc (.cells #[.string ⟨#[]⟩] 24)).alloc (.cells #[.string ⟨#[]⟩] 24)) from((Below.refl _ _).alloc (Nat.le_refl _) _).alloc (by simp) _)
 have HSZ:=hdz (show((w.alloc (.cells #[.string ⟨#[]⟩] 24)).alloc (.cells #[.string ⟨#[]⟩] 24)).heap.size=w.heap.size+2 by simp)
 clear hp hs hn hq hc b1 b2
 unfold S at*
 refine(callsIn_wide (n:=5)).1 ?_
 refine callsIn_of_wp_marks Tryz.func66 rfl trivial ?_ rfl
 simp only[Tryz.ntmps66,List.size_toArray,List.length_cons,List.length_nil,Nat.reduceAdd,Nat.reduceSub,Array.replicate_succ,Array.replicate_zero,List.push_toArray,List.append_toArray,List.nil_append,List.cons_append]
 gi_wp2_with fail
 refine⟨trivial,?_⟩
 generalize (w.alloc (.cells #[.string ⟨#[]⟩] 24)).alloc (.cells #[.string ⟨#[]⟩] 24)=W0 at*
 refine(callsIn_wide.2 (HLO.out W0)).mono ?_
 rintro e w1 ⟨rfl,rfl⟩
 have hbA:Below W0.heap.size W0 ((W0.alloc (.cells #[.slice A n c] 22)).alloc (.cells #[.string ⟨i.toArray⟩] 9)):=((Below.refl _ _).alloc (Nat.le_refl _) _).alloc (by simp) _
 have hB1:=HB1.out.here hbA
 have hB2:=HB2.out.here hbA
 have hBW:=HBW.out.trans (hbA.mono HBW.out.size)
 have hSt:=(Box.new W0 22 (.slice A n c)).alloc (.cells #[.string ⟨i.toArray⟩] 9)
 have hSi:Box ((W0.alloc (.cells #[.slice A n c] 22)).alloc (.cells #[.string ⟨i.toArray⟩] 9)) (W0.heap.size+1) 9 (.string ⟨i.toArray⟩):=by have:=Box.new (W0.alloc (.cells #[.slice A n c] 22)) 9 (.string ⟨i.toArray⟩);simpa using this
 have hz1:((W0.alloc (.cells #[.slice A n c] 22)).alloc (.cells #[.string ⟨i.toArray⟩] 9)).heap.size=w.heap.size+4:=by have:=HSZ.out;simp;omega
 rw[HSZ.out] at hSt hSi
 have HSEQ:=hdz (Zga Fence.wide 4 trivial rfl (by omega) (fun b=>b<w.heap.size∨b=w.heap.size+2+1) (w.heap.size+2) (w.heap.size+2+1) w.heap.size A n c xs i ((W0.alloc (.cells #[.slice A n c] 22)).alloc (.cells #[.string ⟨i.toArray⟩] 9)) hSt hSi (by omega) (HS.out.below hBW) HN.out (fun _ h=>.inl h) (.inr rfl))
 have HZ0:=HSZ.out
 have HB1':=hdz hB1;have HB2':=hdz hB2;have HBW':=hdz hBW;have HZ1:=hdz hz1
 clear hbA hB1 hB2 hBW hSt hSi hz1 HB1 HB2 HBW
 gi_wp2_with fail
 generalize (W0.alloc (.cells #[.slice A n c] 22)).alloc (.cells #[.string ⟨i.toArray⟩] 9)=W1 at*
 refine wpIn_rangeFunc_ownH (α:={z:Lot//z∈lotsOf xs i}) (F:=Fence.wide) (n:=5) rfl (by omega) (gf:=157) (lb:=#[.pointer (some ⟨w.heap.size+2,0,none⟩),.pointer (some ⟨w.heap.size+2+1,0,none⟩)]) rfl trivial (enters_of Tryz.func157 (by kernel_rfl) rfl)
  HSEQ.out (fun h k=>h.trans k) ?hKb (Below.refl _ _) (fun _=>rfl)
  (fun(pre:List {z:Lot//z∈lotsOf xs i}) W=>Box W w.heap.size 24 (.string ⟨(txtL (sumF (·.q) (subV pre))).toArray⟩)∧Box W (w.heap.size+1) 24 (.string ⟨(txtL (sumF (·.c) (subV pre))).toArray⟩)∧Below w.heap.size w W∧W1.heap.size≤W.heap.size) (fun _ _ _=>False)
  (fun pre W W' row ⟨h1,h2,h3,h4⟩ hg hr=>⟨h1.turned hg hr,h2.turned hg hr,Zae h3 hg h3.size (fun g e=>by have:=(hr g e).1;have:=HZ1.out;omega),Nat.le_trans h4 hg.size⟩)
  (fun _ _ _ _ _ h _ _=>h) ⟨HB1'.out,HB2'.out,HBW'.out,Nat.le_refl _⟩
  (fun x a' W=>∃Bx,w.heap.size+1<Bx∧BlkB W Bx (lotC7 x.1) 54∧a'={tmps:=#[.slice A n c,.string ⟨i.toArray⟩,undef,undef,.string ⟨#[]⟩,.string ⟨#[]⟩,.pointer (some ⟨w.heap.size,0,none⟩),.pointer (some ⟨w.heap.size+1,0,none⟩),.pointer (some ⟨Bx,0,none⟩),.slice A n c,.string ⟨i.toArray⟩,.func (.func 157) #[] #[.pointer (some ⟨w.heap.size+2,0,none⟩),.pointer (some ⟨w.heap.size+2+1,0,none⟩)],LotV x.1,undef,undef,undef,undef,undef,undef,undef,undef,undef,undef],defers:=[]})
  (fun x a' _ W W' row ⟨Bx,h1,h2,h3⟩ hg hr=>⟨Bx,h1,(hg.block Bx h2.lt (fun e=>by
    obtain⟨_,o,ho,hc⟩:=hr _ e.symm
    unfold BlkB at h2
    rw[h2] at ho
    injection ho with ho
    rw[←ho] at hc
    cases hc)).trans h2,h3⟩) ?assign ?body ?done ?stop
 case hKb=>
  intro W l o o' hl _ _ _
  exact KeepS.put (fun e=>by have:=HZ1.out;rcases e with e|e<;>omega) _
 case stop=>intro D c pre W _ _ h;exact h.elim
 case assign=>
  rintro lr pre x W K ⟨hb1,hb2,hbl,hsz⟩ hK
  dsimp only[LotV,S]
  gi_wp2
  refine hK _ _ ((KeepsOthers.alloc _ _).from _) (KeepS.below ((Below.refl _ W).alloc (Nat.le_refl _) _)) ⟨hb1.alloc _,hb2.alloc _,hbl.alloc hbl.size _,by simp;omega⟩ ⟨W.heap.size,by have:=HZ1.out;omega,heap_alloc_new W _,rfl⟩
 case body=>
  rintro lr pre x a' W hlr ⟨rr,hrr⟩ ⟨hb1,hb2,hbl,hsz⟩ ⟨Bx,hBx,bX,rfl⟩ hlen
  have HSQ:=hdz (ZgA (·.q) (subV pre) x.1)
  have HSC:=hdz (ZgA (·.c) (subV pre) x.1)
  have HSN:=hdz (Zcj pre x)
  have hle:(subV pre).length≤9999:=by rw[ZhW];have:=HLL.out;omega
  have hmq:∀z∈subV pre,z.q.length≤50000:=fun z hz=>by obtain⟨y,hy,rfl⟩:=List.mem_map.1 hz;exact HQ.out _ y.2
  have hmc:∀z∈subV pre,z.c.length≤50000:=fun z hz=>by obtain⟨y,hy,rfl⟩:=List.mem_map.1 hz;exact HC.out _ y.2
  have HADQ:=hdz (fun W hp=>ZbT (txtL (sumF (·.q) (subV pre))) x.1.q W hp (by have:=ZfN (g:=(·.q)) hmq hle;omega) (by have:=HQ.out _ x.2;omega))
  have HADC:=hdz (fun W hp=>ZbT (txtL (sumF (·.c) (subV pre))) x.1.c W hp (by have:=ZfN (g:=(·.c)) hmc hle;omega) (by have:=HC.out _ x.2;omega))
  rw[Zaa,←HSQ.out,←HSN.out] at HADQ
  rw[Zaa,←HSC.out,←HSN.out] at HADC
  generalize htq2:txtL (sumF (·.q) (subV (pre++[x])))=tq2 at*
  generalize htc2:txtL (sumF (·.c) (subV (pre++[x])))=tc2 at*
  have HTQ2:=hdz htq2;have HTC2:=hdz htc2
  clear htq2 htc2
  generalize txtL (sumF (·.q) (subV pre))=tq at*
  generalize txtL (sumF (·.c) (subV pre))=tc at*
  obtain⟨y,hy⟩:=x
  dsimp only at HADQ HADC bX
  have HB1:=hdz hb1;have HB2:=hdz hb2;have HBL:=hdz hbl;have HX:=hdz bX;have HZW:=hdz hsz
  clear hmq hmc hle HSQ HSC HSN hrr hlen
  have HSS:=hdz (show ∀X,Below W.heap.size W X→X.cell? ⟨w.heap.size,0,none⟩=some (.string ⟨tq.toArray⟩)∧X.cell? ⟨w.heap.size+1,0,none⟩=some (.string ⟨tc.toArray⟩)∧X.cell? ⟨Bx,4,none⟩=some (.string ⟨y.q.toArray⟩)∧X.cell? ⟨Bx,5,none⟩=some (.string ⟨y.c.toArray⟩)∧X.frozen? ⟨w.heap.size,0,none⟩=false∧X.frozen? ⟨w.heap.size+1,0,none⟩=false from fun X hX=>
   ⟨(HB1.out.here hX).cell,(HB2.out.here hX).cell,(HX.out.here hX).cell 4 rfl,(HX.out.here hX).cell 5 rfl,(HB1.out.here hX).frozen,(HB2.out.here hX).frozen⟩)
  clear hb1 hb2 bX
  have hEN:=HP.out.here hbl
  have HE:=hdz (show ∀X,Below W.heap.size W X→Pow X from fun X hX=>(hEN.here hX).pow)
  clear hEN hbl
  obtain⟨z0,z1,z2,z3,z4,z5⟩:=HSS.out W (Below.refl _ _)
  have hmix:Tryz.prog.follows .mixedOrders=true:=by kernel_rfl
  unfold S at HADQ HADC
  gi_wp2
  have hend:∀w6,Below W.heap.size W w6→KeepsFrom W1.heap.size W ((w6.setCell ⟨w.heap.size,0,none⟩ (.string ⟨tq2.toArray⟩)).setCell ⟨w.heap.size+1,0,none⟩ (.string ⟨tc2.toArray⟩))∧KeepS (fun b=>b<w.heap.size∨b=w.heap.size+2+1) W ((w6.setCell ⟨w.heap.size,0,none⟩ (.string ⟨tq2.toArray⟩)).setCell ⟨w.heap.size+1,0,none⟩ (.string ⟨tc2.toArray⟩))∧
   Box ((w6.setCell ⟨w.heap.size,0,none⟩ (.string ⟨tq2.toArray⟩)).setCell ⟨w.heap.size+1,0,none⟩ (.string ⟨tc2.toArray⟩)) w.heap.size 24 (.string ⟨tq2.toArray⟩)∧Box ((w6.setCell ⟨w.heap.size,0,none⟩ (.string ⟨tq2.toArray⟩)).setCell ⟨w.heap.size+1,0,none⟩ (.string ⟨tc2.toArray⟩)) (w.heap.size+1) 24 (.string ⟨tc2.toArray⟩)∧
   Below w.heap.size w ((w6.setCell ⟨w.heap.size,0,none⟩ (.string ⟨tq2.toArray⟩)).setCell ⟨w.heap.size+1,0,none⟩ (.string ⟨tc2.toArray⟩))∧W1.heap.size≤((w6.setCell ⟨w.heap.size,0,none⟩ (.string ⟨tq2.toArray⟩)).setCell ⟨w.heap.size+1,0,none⟩ (.string ⟨tc2.toArray⟩)).heap.size:=fun w6 hz=>
   ⟨(Zc4 hz _).trans (((KeepsOthers.setCell _ _ _).trans (KeepsOthers.setCell _ _ _)).from _),
    (KeepS.below hz).trans ((KeepS.set (S:=fun b=>b<w.heap.size∨b=w.heap.size+2+1) (p:=⟨w.heap.size,0,none⟩) (fun e=>by rcases e with e|e<;>simp at e<;>omega) _).trans (KeepS.set (S:=fun b=>b<w.heap.size∨b=w.heap.size+2+1) (p:=⟨w.heap.size+1,0,none⟩) (fun e=>by rcases e with e|e<;>simp at e<;>omega) _)),
    ((HB1.out.here hz).set_ _).far (p:=⟨w.heap.size+1,0,none⟩) (by simp) _,((HB2.out.here hz).far (p:=⟨w.heap.size,0,none⟩) (by simp) _).set_ _,
    ((HBL.out.trans (hz.mono HBL.out.size)).setCell (p:=⟨w.heap.size,0,none⟩) (Nat.le_refl _) _).setCell (p:=⟨w.heap.size+1,0,none⟩) (by simp) _,by simp;exact Nat.le_trans HZW.out hz.size⟩
  refine Zgz (S:=(fun X=>X.cell? ⟨Bx,4,none⟩=some (.string ⟨y.q.toArray⟩)∧X.cell? ⟨Bx,5,none⟩=some (.string ⟨y.c.toArray⟩))) hmix (by kernel_rfl) (fun⟨_,_,h⟩=>h) ?_
  have hSx:∀X,Below W.heap.size W X→X.cell? ⟨Bx,4,none⟩=some (.string ⟨y.q.toArray⟩)∧X.cell? ⟨Bx,5,none⟩=some (.string ⟨y.c.toArray⟩):=fun X hX=>⟨(HSS.out X hX).2.2.1,(HSS.out X hX).2.2.2.1⟩
  have hS1:∀X,Below W.heap.size W X→(X.setCell ⟨w.heap.size,0,none⟩ (.string ⟨tq2.toArray⟩)).cell? ⟨Bx,4,none⟩=some (.string ⟨y.q.toArray⟩)∧(X.setCell ⟨w.heap.size,0,none⟩ (.string ⟨tq2.toArray⟩)).cell? ⟨Bx,5,none⟩=some (.string ⟨y.c.toArray⟩):=fun X hX=>
   ⟨((HX.out.here hX).far (a:=⟨w.heap.size,0,none⟩) (by simp;omega) _).cell 4 rfl,((HX.out.here hX).far (a:=⟨w.heap.size,0,none⟩) (by simp;omega) _).cell 5 rfl⟩
  have hS2:∀X,Below W.heap.size W X→((X.setCell ⟨w.heap.size,0,none⟩ (.string ⟨tq2.toArray⟩)).setCell ⟨w.heap.size+1,0,none⟩ (.string ⟨tc2.toArray⟩)).cell? ⟨Bx,4,none⟩=some (.string ⟨y.q.toArray⟩)∧((X.setCell ⟨w.heap.size,0,none⟩ (.string ⟨tq2.toArray⟩)).setCell ⟨w.heap.size+1,0,none⟩ (.string ⟨tc2.toArray⟩)).cell? ⟨Bx,5,none⟩=some (.string ⟨y.c.toArray⟩):=fun X hX=>
   ⟨(((HX.out.here hX).far (a:=⟨w.heap.size,0,none⟩) (by simp;omega) _).far (a:=⟨w.heap.size+1,0,none⟩) (by simp;omega) _).cell 4 rfl,(((HX.out.here hX).far (a:=⟨w.heap.size,0,none⟩) (by simp;omega) _).far (a:=⟨w.heap.size+1,0,none⟩) (by simp;omega) _).cell 5 rfl⟩
  have hs0:=hSx W.drew (Below.refl _ W).drew
  refine wpAnyH_take (i:=1) (v:= ?_) rfl (by kernel_rfl) (by kernel_rfl) (by kernel_rfl) (fun _ _ _ h=>h) (Or.inl ⟨by rfl,?_⟩) hs0 ?_
  rotate_left
  ·intro X hX;obtain⟨hX1,hX2⟩:=hX;go_simp;first|done|with_reducible rfl
  try simp only[Act.put,List.setIfInBounds_toArray]
  refine wpAnyH_take (i:=5) (v:= ?_) rfl (by kernel_rfl) (by kernel_rfl) (by kernel_rfl) (fun _ _ _ h=>h) (Or.inl ⟨by rfl,?_⟩) hs0 ?_
  rotate_left
  ·intro X hX;obtain⟨hX1,hX2⟩:=hX;go_simp;first|done|with_reducible rfl
  try simp only[Act.put]
  refine wpAnyH_take (i:=2) (v:= ?_) rfl (by kernel_rfl) (by kernel_rfl) (by kernel_rfl) (fun _ _ _ h=>h) (Or.inl ⟨by rfl,?_⟩) hs0 ?_
  rotate_left
  ·intro X hX;obtain⟨hX1,hX2⟩:=hX;go_simp;first|done|with_reducible rfl
  try simp only[Act.put]
  refine wpAnyH_take (i:=6) (v:= ?_) rfl (by kernel_rfl) (by kernel_rfl) (by kernel_rfl) (fun _ _ _ h=>h) (Or.inl ⟨by rfl,?_⟩) hs0 ?_
  rotate_left
  ·intro X hX;obtain⟨hX1,hX2⟩:=hX;go_simp;first|done|with_reducible rfl
  try simp only[Act.put]
  refine wpAnyH_ready (rs:=[0,4]) (by kernel_rfl) (by simp) ?_
  refine AllReadyH.cons rfl (fun K hK=> ?_) ?_
  ·skip
   go_simp
   refine hK.out _ _ hs0 (fun _=> ?_)
   clear hK K
   try simp only[Act.put,List.setIfInBounds_toArray,List.set_cons_zero,List.set_cons_succ]
   refine wpAnyH_ready (rs:=[3,4]) (by kernel_rfl) (by simp) ?_
   refine AllReadyH.cons rfl (fun K hK=> ?_) ?_
   ·skip
    go_simp
    go_at_call 77
    refine(HADQ.out _ (HE.out _ (Below.refl W.heap.size W).drew)).mono ?_
    rintro e w5 ⟨rfl,hb5⟩
    try unfold S
    have hz5:Below W.heap.size W w5:=(Below.refl _ W).drew.trans hb5
    obtain⟨y0,y1,y2,y3,y4,y5⟩:=HSS.out _ hz5
    refine hK.out _ _ (hSx _ hz5) (fun _=> ?_)
    clear hK K
    try simp only[Act.put,List.setIfInBounds_toArray,List.set_cons_zero,List.set_cons_succ]
    refine wpAnyH_ready (rs:=[4]) (by kernel_rfl) (by simp) ?_
    refine AllReadyH.cons rfl (fun K hK=> ?_) ?_
    rotate_left
    ·exact AllReadyH.nil
    go_simp
    refine hK.out _ _ (hSx _ hz5) (fun _=> ?_)
    clear hK K
    try simp only[Act.put,List.setIfInBounds_toArray,List.set_cons_zero,List.set_cons_succ]
    refine wpAnyH_ready (rs:=[7]) (by kernel_rfl) (by simp) ?_
    refine AllReadyH.cons rfl (fun K hK=> ?_) ?_
    rotate_left
    ·exact AllReadyH.nil
    go_simp
    go_at_call 77
    refine(HADC.out _ (HE.out _ hz5)).mono ?_
    rintro e w6 ⟨rfl,hb6⟩
    try unfold S
    have hz6:Below W.heap.size W w6:=hz5.trans (hb6.mono hz5.size)
    obtain⟨x0,x1,x2,x3,x4,x5⟩:=HSS.out _ hz6
    refine hK.out _ _ (hSx _ hz6) (fun _=> ?_)
    clear hK K
    try simp only[Act.put,List.setIfInBounds_toArray,List.set_cons_zero,List.set_cons_succ]
    refine wpAnyH_ready (rs:=[8]) (by kernel_rfl) (by simp) ?_
    refine AllReadyH.cons rfl (fun K hK=> ?_) ?_
    rotate_left
    ·exact AllReadyH.nil
    go_simp
    refine hK.out _ _ (hS1 _ hz6) (fun _=> ?_)
    clear hK K
    try simp only[Act.put,List.setIfInBounds_toArray,List.set_cons_zero,List.set_cons_succ]
    have fz:(w6.setCell ⟨w.heap.size,0,none⟩ (.string ⟨tq2.toArray⟩)).frozen? ⟨w.heap.size+1,0,none⟩=false:=((HB2.out.here hz6).far (p:=⟨w.heap.size,0,none⟩) (by simp) _).frozen
    have cz:(w6.setCell ⟨w.heap.size,0,none⟩ (.string ⟨tq2.toArray⟩)).cell? ⟨w.heap.size+1,0,none⟩=some (.string ⟨tc.toArray⟩):=((HB2.out.here hz6).far (p:=⟨w.heap.size,0,none⟩) (by simp) _).cell
    refine wpAnyH_ready (rs:=[9]) (by kernel_rfl) (by simp) ?_
    refine AllReadyH.cons rfl (fun K hK=> ?_) ?_
    rotate_left
    ·exact AllReadyH.nil
    go_simp
    refine hK.out _ _ (hS2 _ hz6) (fun _=> ?_)
    clear hK K
    refine wpAnyH_done (by kernel_rfl) ?_ _
    gi_wp2
    obtain⟨e1,e2,e3,e4,e5,e6⟩:=hend w6 hz6
    exact⟨e1,e2,(show Box _ _ _ (.string ⟨(txtL (sumF (·.q) (subV (pre++[⟨y,hy⟩])))).toArray⟩) by rw[HTQ2.out];exact e3),(show Box _ _ _ (.string ⟨(txtL (sumF (·.c) (subV (pre++[⟨y,hy⟩])))).toArray⟩) by rw[HTC2.out];exact e4),e5,e6⟩
   refine AllReadyH.cons rfl (fun K hK=> ?_) ?_
   rotate_left
   ·exact AllReadyH.nil
   ·skip
    go_simp
    refine hK.out _ _ hs0 (fun _=> ?_)
    clear hK K
    try simp only[Act.put,List.setIfInBounds_toArray,List.set_cons_zero,List.set_cons_succ]
    refine wpAnyH_ready (rs:=[3]) (by kernel_rfl) (by simp) ?_
    refine AllReadyH.cons rfl (fun K hK=> ?_) ?_
    rotate_left
    ·exact AllReadyH.nil
    go_simp
    go_at_call 77
    refine(HADQ.out _ (HE.out _ (Below.refl W.heap.size W).drew)).mono ?_
    rintro e w5 ⟨rfl,hb5⟩
    try unfold S
    have hz5:Below W.heap.size W w5:=(Below.refl _ W).drew.trans hb5
    obtain⟨y0,y1,y2,y3,y4,y5⟩:=HSS.out _ hz5
    refine hK.out _ _ (hSx _ hz5) (fun _=> ?_)
    clear hK K
    try simp only[Act.put,List.setIfInBounds_toArray,List.set_cons_zero,List.set_cons_succ]
    refine wpAnyH_ready (rs:=[7]) (by kernel_rfl) (by simp) ?_
    refine AllReadyH.cons rfl (fun K hK=> ?_) ?_
    rotate_left
    ·exact AllReadyH.nil
    go_simp
    go_at_call 77
    refine(HADC.out _ (HE.out _ hz5)).mono ?_
    rintro e w6 ⟨rfl,hb6⟩
    try unfold S
    have hz6:Below W.heap.size W w6:=hz5.trans (hb6.mono hz5.size)
    obtain⟨x0,x1,x2,x3,x4,x5⟩:=HSS.out _ hz6
    refine hK.out _ _ (hSx _ hz6) (fun _=> ?_)
    clear hK K
    try simp only[Act.put,List.setIfInBounds_toArray,List.set_cons_zero,List.set_cons_succ]
    refine wpAnyH_ready (rs:=[8]) (by kernel_rfl) (by simp) ?_
    refine AllReadyH.cons rfl (fun K hK=> ?_) ?_
    rotate_left
    ·exact AllReadyH.nil
    go_simp
    refine hK.out _ _ (hS1 _ hz6) (fun _=> ?_)
    clear hK K
    try simp only[Act.put,List.setIfInBounds_toArray,List.set_cons_zero,List.set_cons_succ]
    have fz:(w6.setCell ⟨w.heap.size,0,none⟩ (.string ⟨tq2.toArray⟩)).frozen? ⟨w.heap.size+1,0,none⟩=false:=((HB2.out.here hz6).far (p:=⟨w.heap.size,0,none⟩) (by simp) _).frozen
    have cz:(w6.setCell ⟨w.heap.size,0,none⟩ (.string ⟨tq2.toArray⟩)).cell? ⟨w.heap.size+1,0,none⟩=some (.string ⟨tc.toArray⟩):=((HB2.out.here hz6).far (p:=⟨w.heap.size,0,none⟩) (by simp) _).cell
    refine wpAnyH_ready (rs:=[9]) (by kernel_rfl) (by simp) ?_
    refine AllReadyH.cons rfl (fun K hK=> ?_) ?_
    rotate_left
    ·exact AllReadyH.nil
    go_simp
    refine hK.out _ _ (hS2 _ hz6) (fun _=> ?_)
    clear hK K
    refine wpAnyH_done (by kernel_rfl) ?_ _
    gi_wp2
    obtain⟨e1,e2,e3,e4,e5,e6⟩:=hend w6 hz6
    exact⟨e1,e2,(show Box _ _ _ (.string ⟨(txtL (sumF (·.q) (subV (pre++[⟨y,hy⟩])))).toArray⟩) by rw[HTQ2.out];exact e3),(show Box _ _ _ (.string ⟨(txtL (sumF (·.c) (subV (pre++[⟨y,hy⟩])))).toArray⟩) by rw[HTC2.out];exact e4),e5,e6⟩
  refine AllReadyH.cons rfl (fun K hK=> ?_) ?_
  rotate_left
  ·exact AllReadyH.nil
  ·skip
   go_simp
   refine hK.out _ _ hs0 (fun _=> ?_)
   clear hK K
   try simp only[Act.put,List.setIfInBounds_toArray,List.set_cons_zero,List.set_cons_succ]
   refine wpAnyH_ready (rs:=[0]) (by kernel_rfl) (by simp) ?_
   refine AllReadyH.cons rfl (fun K hK=> ?_) ?_
   rotate_left
   ·exact AllReadyH.nil
   go_simp
   refine hK.out _ _ hs0 (fun _=> ?_)
   clear hK K
   try simp only[Act.put,List.setIfInBounds_toArray,List.set_cons_zero,List.set_cons_succ]
   refine wpAnyH_ready (rs:=[3]) (by kernel_rfl) (by simp) ?_
   refine AllReadyH.cons rfl (fun K hK=> ?_) ?_
   rotate_left
   ·exact AllReadyH.nil
   go_simp
   go_at_call 77
   refine(HADQ.out _ (HE.out _ (Below.refl W.heap.size W).drew)).mono ?_
   rintro e w5 ⟨rfl,hb5⟩
   try unfold S
   have hz5:Below W.heap.size W w5:=(Below.refl _ W).drew.trans hb5
   obtain⟨y0,y1,y2,y3,y4,y5⟩:=HSS.out _ hz5
   refine hK.out _ _ (hSx _ hz5) (fun _=> ?_)
   clear hK K
   try simp only[Act.put,List.setIfInBounds_toArray,List.set_cons_zero,List.set_cons_succ]
   refine wpAnyH_ready (rs:=[7]) (by kernel_rfl) (by simp) ?_
   refine AllReadyH.cons rfl (fun K hK=> ?_) ?_
   rotate_left
   ·exact AllReadyH.nil
   go_simp
   go_at_call 77
   refine(HADC.out _ (HE.out _ hz5)).mono ?_
   rintro e w6 ⟨rfl,hb6⟩
   try unfold S
   have hz6:Below W.heap.size W w6:=hz5.trans (hb6.mono hz5.size)
   obtain⟨x0,x1,x2,x3,x4,x5⟩:=HSS.out _ hz6
   refine hK.out _ _ (hSx _ hz6) (fun _=> ?_)
   clear hK K
   try simp only[Act.put,List.setIfInBounds_toArray,List.set_cons_zero,List.set_cons_succ]
   refine wpAnyH_ready (rs:=[8]) (by kernel_rfl) (by simp) ?_
   refine AllReadyH.cons rfl (fun K hK=> ?_) ?_
   rotate_left
   ·exact AllReadyH.nil
   go_simp
   refine hK.out _ _ (hS1 _ hz6) (fun _=> ?_)
   clear hK K
   try simp only[Act.put,List.setIfInBounds_toArray,List.set_cons_zero,List.set_cons_succ]
   have fz:(w6.setCell ⟨w.heap.size,0,none⟩ (.string ⟨tq2.toArray⟩)).frozen? ⟨w.heap.size+1,0,none⟩=false:=((HB2.out.here hz6).far (p:=⟨w.heap.size,0,none⟩) (by simp) _).frozen
   have cz:(w6.setCell ⟨w.heap.size,0,none⟩ (.string ⟨tq2.toArray⟩)).cell? ⟨w.heap.size+1,0,none⟩=some (.string ⟨tc.toArray⟩):=((HB2.out.here hz6).far (p:=⟨w.heap.size,0,none⟩) (by simp) _).cell
   refine wpAnyH_ready (rs:=[9]) (by kernel_rfl) (by simp) ?_
   refine AllReadyH.cons rfl (fun K hK=> ?_) ?_
   rotate_left
   ·exact AllReadyH.nil
   go_simp
   refine hK.out _ _ (hS2 _ hz6) (fun _=> ?_)
   clear hK K
   refine wpAnyH_done (by kernel_rfl) ?_ _
   gi_wp2
   obtain⟨e1,e2,e3,e4,e5,e6⟩:=hend w6 hz6
   exact⟨e1,e2,(show Box _ _ _ (.string ⟨(txtL (sumF (·.q) (subV (pre++[⟨y,hy⟩])))).toArray⟩) by rw[HTQ2.out];exact e3),(show Box _ _ _ (.string ⟨(txtL (sumF (·.c) (subV (pre++[⟨y,hy⟩])))).toArray⟩) by rw[HTC2.out];exact e4),e5,e6⟩
 case done=>
  rintro D ys W hD hS ⟨hb1,hb2,hbl,hsz⟩ hK
  have c1:=hb1.cell;have c2:=hb2.cell
  have HYS:=hdz (show subV ys=lotsOf xs i from hS)
  rw[HYS.out] at c1 c2
  have HBL:=hdz hbl
  clear hb1 hb2 hbl hS
  gi_wp2
  refine wpIn_wide.2 ?_
  go_quiet (fail)
  go_wp2_with fail
  gi_wp2
  refine⟨by simp,.inl ⟨_,_,rfl,run_takeDeferred hK,?_⟩⟩
  refine⟨_,results_tmp2 rfl _ _ _,?_⟩
  rw[HPO.out]
  exact⟨rfl,(bdN HBL.out nq).grown (grownBy_putObj' _ D (.deferred none)) HBL.out.size (fun r e=>by cases e;have:=HZ1.out;omega)⟩
end
end Go.Proofs.YtpnncoinlopndaaGreatDoor
