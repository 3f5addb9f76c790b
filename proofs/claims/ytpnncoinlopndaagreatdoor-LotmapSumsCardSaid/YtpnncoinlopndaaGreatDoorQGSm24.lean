/- PrK, Ke, Lco. -/
import Derived.Test.YtpnncoinlopndaaGreatDoorQGSm22
set_option maxRecDepth 100000
set_option maxHeartbeats 4000000
namespace Go.Proofs.YtpnncoinlopndaaGreatDoor
open Go.Lib renaming hid→hdz
section
open Go.RowKit Go.Shelf
theorem ZnE(old:List Lot):sumV (old.map (·.q))=(old.map fun y=>val y.q).sum:=by unfold sumV;rw[List.map_map];rfl
theorem ZnF(old:List Lot):sumV (old.map (·.c))=(old.map fun y=>val y.c).sum:=by unfold sumV;rw[List.map_map];rfl
theorem ZnG(old:List Lot):(old.map (·.q)).map val=old.map fun y=>val y.q:=by rw[List.map_map];rfl
theorem ZnY(old:List Lot):(old.map (·.c)).map val=old.map fun y=>val y.c:=by rw[List.map_map];rfl
theorem Zm1(l:List Int):(l.map txtL).map val=l:=by
 rw[List.map_map]
 have:(val ∘ txtL)=id:=by funext x;exact Zaa x
 rw[this,List.map_id]
def Gv1(r:Value)(W:World)(e:Ending)(w':World):Prop:=e=.returned r∧Below W.heap.size W w'
structure PrC (N:Nat) (m:Mp) (qs ks:List (List UInt8)) (xn xm xf xp:List Int) (tsq tsk tpt tmv tfr tcs:List UInt8) (fsq fex fpt fsk fmv fcs:Fr):Prop where
 c1:∀W A c,Env W→Strs W W.heap.size A N qs→Calls Tryz.prog 65 #[.slice A N c] W (Gv1 (.string ⟨tsq.toArray⟩) W)
 c2:∀W,Env W→Calls Tryz.prog 60 #[.string ⟨tsq.toArray⟩] W (Gv1 (.agg #[.string ⟨fsq.n.toArray⟩,.string ⟨fsq.d.toArray⟩]) W)
 c3:∀W,Env W→Calls Tryz.prog 55 #[.agg #[.string ⟨fsq.n.toArray⟩,.string ⟨fsq.d.toArray⟩],.agg #[.string ⟨m.ratio.n.toArray⟩,.string ⟨m.ratio.d.toArray⟩]] W (Gv1 (.agg #[.string ⟨fex.n.toArray⟩,.string ⟨fex.d.toArray⟩]) W)
 c4:∀W,Env W→Calls Tryz.prog 59 #[.agg #[.string ⟨fex.n.toArray⟩,.string ⟨fex.d.toArray⟩]] W (Gv1 (.tuple #[.string ⟨tpt.toArray⟩,.agg #[.string ⟨fpt.n.toArray⟩,.string ⟨fpt.d.toArray⟩]]) W)
 c5:∀W A c,Env W→Strs W W.heap.size A N ks→Calls Tryz.prog 65 #[.slice A N c] W (Gv1 (.string ⟨tsk.toArray⟩) W)
 c6:∀W,Env W→Calls Tryz.prog 60 #[.string ⟨tsk.toArray⟩] W (Gv1 (.agg #[.string ⟨fsk.n.toArray⟩,.string ⟨fsk.d.toArray⟩]) W)
 c7:∀W,Env W→Calls Tryz.prog 55 #[.agg #[.string ⟨m.share.n.toArray⟩,.string ⟨m.share.d.toArray⟩],.agg #[.string ⟨fsk.n.toArray⟩,.string ⟨fsk.d.toArray⟩]] W (Gv1 (.agg #[.string ⟨fmv.n.toArray⟩,.string ⟨fmv.d.toArray⟩]) W)
 c8:∀W,Env W→Calls Tryz.prog 73 #[.agg #[.string ⟨fmv.n.toArray⟩,.string ⟨fmv.d.toArray⟩]] W (Gv1 (.string ⟨tmv.toArray⟩) W)
 c9:∀W A c,Env W→Strs W W.heap.size A N qs→Calls Tryz.prog 74 #[.string ⟨tpt.toArray⟩,.slice A N c] W (RowPost xn N W)
 c10:∀W A c,Env W→Strs W W.heap.size A N ks→Calls Tryz.prog 74 #[.string ⟨tmv.toArray⟩,.slice A N c] W (RowPost xm N W)
 c11:∀W (v:PlV),Env W→v.parts=tpt→v.part=fpt→Calls Tryz.prog 75 #[.agg (plB v),.string ⟨tmv.toArray⟩,.agg #[.string ⟨fex.n.toArray⟩,.string ⟨fex.d.toArray⟩]] W (Gv1 (.string ⟨tfr.toArray⟩) W)
 c12:∀W P,Env W→BlkB W P (partA xm N N) 24→Calls Tryz.prog 74 #[.string ⟨tfr.toArray⟩,.slice (some ⟨P,0,none⟩) N N] W (RowPost xf N W)
 c13:∀W,Env W→Calls Tryz.prog 55 #[.agg #[.string ⟨fpt.n.toArray⟩,.string ⟨fpt.d.toArray⟩],.agg #[.string ⟨m.price.n.toArray⟩,.string ⟨m.price.d.toArray⟩]] W (Gv1 (.agg #[.string ⟨fcs.n.toArray⟩,.string ⟨fcs.d.toArray⟩]) W)
 c14:∀W,Env W→Calls Tryz.prog 73 #[.agg #[.string ⟨fcs.n.toArray⟩,.string ⟨fcs.d.toArray⟩]] W (Gv1 (.string ⟨tcs.toArray⟩) W)
 c15:∀W A c,Env W→Strs W W.heap.size A N qs→Calls Tryz.prog 74 #[.string ⟨tcs.toArray⟩,.slice A N c] W (RowPost xp N W)
theorem ZhV{k:Int}{K:Nat}(h:k.natAbs<10^K):(frOf ((k:Int):Rat)).Sz (K+1):=by
 rw[ZbZ]
 exact⟨Zab h,by simp⟩
theorem Zm2{old:List Lot}{m:Mp}{L:Nat}(hok:∀y∈old,y.Ok)(hm:m.Ok)(hlo:old.length≤1000)(hL:L≤100)(hL1:1≤L)(hq:∀y∈old,y.q.length≤L)(hc:∀y∈old,y.c.length≤L)
 (hr:m.ratio.Sz L) (hsh:m.share.Sz L) (hpr:m.price.Sz L):
 PrC old.length m (old.map (·.q)) (old.map (·.c)) (planL old m).n (planL old m).m (planL old m).f (planL old m).p
  (txtL (sumV (old.map (·.q)))) (txtL (sumV (old.map (·.c)))) (txtL (planL old m).parts) (txtL (planL old m).moved) (txtL (planL old m).taken) (txtL (planL old m).cash)
  (frOf ((sumV (old.map (·.q)):Int):Rat)) (frOf (planL old m).exact) (frOf (planL old m).part) (frOf ((sumV (old.map (·.c)):Int):Rat)) (frOf (m.share.rat*((sumV (old.map (·.c)):Int):Rat))) (frOf ((planL old m).part*m.price.rat)):=by
 have hK:=Zds hok hm hlo hL1 hq hc hr hpr
 have hpo:=Zc2 hok hm
 obtain⟨l1,l2,l3,l4⟩:=Za1 old m
 obtain⟨nq,nc⟩:=ZbK hok
 have hsq:(sumV (old.map (·.q))).natAbs<10^(L+4):=by rw[ZnE];exact Zc6 (fun y hy=>Zai (hq y hy)) hlo
 have hsc:(sumV (old.map (·.c))).natAbs<10^(L+4):=by rw[ZnF];exact Zc6 (fun y hy=>Zai (hc y hy)) hlo
 have z1:=ZhV hsq;have z2:=ZhV hsc
 have lq:∀x∈old.map (·.q),x.length≤L:=fun x hx=>by obtain⟨y,hy,rfl⟩:=List.mem_map.1 hx;exact hq y hy
 have lc:∀x∈old.map (·.c),x.length≤L:=fun x hx=>by obtain⟨y,hy,rfl⟩:=List.mem_map.1 hx;exact hc y hy
 have q0:∀x∈old.map (·.q),0≤val x:=fun x hx=>by obtain⟨y,hy,rfl⟩:=List.mem_map.1 hx;have:=(hok y hy).q0;omega
 have c0:∀x∈old.map (·.c),0≤val x:=fun x hx=>by obtain⟨y,hy,rfl⟩:=List.mem_map.1 hx;exact(hok y hy).c0
 have qc:∀x∈old.map (·.q),canB x=true:=fun x hx=>by obtain⟨y,hy,rfl⟩:=List.mem_map.1 hx;exact(hok y hy).q
 have cc:∀x∈old.map (·.c),canB x=true:=fun x hx=>by obtain⟨y,hy,rfl⟩:=List.mem_map.1 hx;exact(hok y hy).c
 have hex:(planL old m).exact=((sumV (old.map (·.q)):Int):Rat)*m.ratio.rat:=by rw[ZnE];exact hpo.ex
 have hmv:(planL old m).moved=rnd (m.share.rat*((sumV (old.map (·.c)):Int):Rat)):=by rw[ZnF];rfl
 have hca:(planL old m).cash=rnd ((planL old m).part*m.price.rat):=rfl
 have hpt:(planL old m).parts=flo (planL old m).exact:=rfl
 have hpa':(planL old m).part=(planL old m).exact-(((planL old m).parts:Int):Rat):=rfl
 have htk:(planL old m).taken=fracI (planL old m).exact (planL old m).moved:=rfl
 have hn:(planL old m).n=divS (planL old m).parts ((old.map (·.q)).map val):=by rw[ZnG];rfl
 have hmm:(planL old m).m=divS (planL old m).moved ((old.map (·.c)).map val):=by rw[ZnY];rfl
 have hf:(planL old m).f=divS (planL old m).taken (((planL old m).m.map txtL).map val):=by rw[Zm1];rfl
 have hp:(planL old m).p=divS (planL old m).cash ((old.map (·.q)).map val):=by rw[ZnG];rfl
 have mnn:∀x∈(planL old m).m,0≤x:=ZaS hpo.moved0 nc
 have hp0:=hpo.parts0;have hm0:=hpo.moved0;have ht0:=hpo.taken0;have hc0:=hpo.cash0;have he0:=hpo.exact0
 have ez:=Zam hK.ex;have pz:=Zam hK.part
 have mz:(frOf (m.share.rat*((sumV (old.map (·.c)):Int):Rat))).Sz (2*L+20):=by
  have:=Zam (ZcO ((Zd7 hsh hL1).more (show L≤L+4 by omega)) (Zc7 hsc (by omega)))
  exact this.more (by omega)
 have cz:(frOf ((planL old m).part*m.price.rat)).Sz (10*L+90):=by
  have:=Zam (ZcO hK.part ((Zd7 hpr hL1).more (show L≤4*L+40 by omega)))
  exact this.more (by omega)
 have lpt:=Zab hK.parts;have lmv:=Zab hK.moved;have ltk:=Zab hK.taken;have lca:=Zab hK.cash
 have lsq:=Zab hsq;have lsc:=Zab hsc
 have hKm:=hK.m
 generalize planL old m=x at*
 generalize hsqe:sumV (old.map (·.q))=sq at*
 generalize hsce:sumV (old.map (·.c))=sc at*
 have hml:(x.m.map txtL).length=old.length:=by rw[List.length_map];exact l2
 refine⟨?_,?_,?_,?_,?_,?_,?_,?_,?_,?_,?_,?_,?_,?_,?_⟩
 ·intro W A c hW hS
  have h:=Zc3 A old.length c _ W hW hS (fun x hx=>Nat.le_trans (lq x hx) (by omega)) (by omega)
  rw[hsqe] at h
  exact h
 ·intro W hW
  have h:=Zdo (txtL sq) W hW.pow (by omega)
  rw[Zaa] at h
  exact h
 ·intro W hW
  have h:=ZcY (frOf (sq:Rat)) m.ratio W hW.pow (z1.more (by omega)) (hr.more (by omega))
  rw[Zac,←hex] at h
  exact h
 ·intro W hW
  have h:=ZeY (frOf x.exact) (ez.more (by omega)) W hW
  rw[Zac,←hpt,←hpa'] at h
  exact h
 ·intro W A c hW hS
  have h:=Zc3 A old.length c _ W hW hS (fun x hx=>Nat.le_trans (lc x hx) (by omega)) (by omega)
  rw[hsce] at h
  exact h
 ·intro W hW
  have h:=Zdo (txtL sc) W hW.pow (by omega)
  rw[Zaa] at h
  exact h
 ·intro W hW
  have h:=ZcY m.share (frOf (sc:Rat)) W hW.pow (hsh.more (by omega)) (z2.more (by omega))
  rw[Zac] at h
  exact h
 ·intro W hW
  have h:=ZdE (frOf (m.share.rat*(sc:Rat))) (mz.more (by omega)) W hW
  rw[Zac,←hmv] at h
  exact h
 ·intro W A c hW hS
  have h:=ZbY (txtL x.parts) A old.length c _ W hW hS (by omega) (fun x hx=>Nat.le_trans (lq x hx) (by omega)) hlo (by rw[Zaa]) (by rw[Zaa];exact hp0) q0 qc
  rw[Zaa,←hn] at h
  exact h
 ·intro W A c hW hS
  have h:=ZbY (txtL x.moved) A old.length c _ W hW hS (by omega) (fun x hx=>Nat.le_trans (lc x hx) (by omega)) hlo (by rw[Zaa]) (by rw[Zaa];exact hm0) c0 cc
  rw[Zaa,←hmm] at h
  exact h
 ·intro W v hW h1 h2
  have h:=Zin v x.exact x.moved W (K:=4*L+40) (by omega) (by omega) hW hK.ex hK.moved he0 (by rw[h1,←hpt]) (by rw[h2,hpa',hpt])
  rw[Zbt,←htk] at h
  exact h
 ·intro W P hW hB
  have h:=ZbY (txtL x.taken) (some ⟨P,0,none⟩) old.length old.length (x.m.map txtL) W hW (ZaB hB l2) (by omega) (fun t ht=>by
   obtain⟨i,hi⟩:=List.getElem?_of_mem ht
   rw[List.getElem?_map] at hi
   cases hx:x.m[i]? with
   |none=>rw[hx] at hi;cases hi
   |some z=>
    rw[hx] at hi
    have hi:txtL z=t:=Option.some.inj hi
    rw[←hi,←Zeo hx]
    have:=Zab (hKm i)
    omega) hlo (by rw[Zaa]) (by rw[Zaa];exact ht0) (fun t ht=>by obtain⟨z,hz,rfl⟩:=List.mem_map.1 ht;rw[Zaa];exact mnn z hz) (fun t ht=>by obtain⟨z,hz,rfl⟩:=List.mem_map.1 ht;exact Zcb z)
  rw[Zaa,←hf] at h
  exact h
 ·intro W hW
  have h:=ZcY (frOf x.part) m.price W hW.pow (pz.more (by omega)) (hpr.more (by omega))
  rw[Zac] at h
  exact h
 ·intro W hW
  have h:=ZdE (frOf (x.part*m.price.rat)) (cz.more (by omega)) W hW
  rw[Zac,←hca] at h
  exact h
 ·intro W A c hW hS
  have h:=ZbY (txtL x.cash) A old.length c _ W hW hS (by omega) (fun x hx=>Nat.le_trans (lq x hx) (by omega)) hlo (by rw[Zaa]) (by rw[Zaa];exact hc0) q0 qc
  rw[Zaa,←hp] at h
  exact h
end
section
open Go.RowKit Go.Shelf
theorem ZeD{w0 W W':World}{S:Nat→Prop}{name:String}{v v0:Array Value}(h0:w0.var? Tryz.prog name=some v0)(hS:∀b,b<w0.heap.size→S b)(h:W.var? Tryz.prog name=some v)(hk:KeepS S W W'):W'.var? Tryz.prog name=some v:=by
 unfold World.var? at*
 cases hg:Tryz.prog.globalNamed name with
 |none=>simp[hg] at h
 |some g=>
  simp only[hg,Option.bind_some] at h h0 ⊢
  have hlt:∀{X:World} {u:Array Value},(match X.heap[g]? with|some (.cells cs _ _)=>some cs|_=>none)=some u→g<X.heap.size:=by
   intro X u hu
   rcases Nat.lt_or_ge g X.heap.size with h'|h'
   ·exact h'
   ·rw[Array.getElem?_eq_none h'] at hu;simp at hu
  rw[hk.2 g (hS g (hlt h0)) (hlt h)]
  exact h
theorem ZeE{w0:World}(h0:Env w0){S:Nat→Prop}(hS:∀b,b<w0.heap.size→S b):∀W W',Env W→KeepS S W W'→Env W':=fun W W' h hk=>by
 obtain⟨t1,p1,e1⟩:=h0.syn
 obtain⟨t2,p2,e2⟩:=h0.rng
 refine⟨ZeD h0.pow hS h.pow hk,?_,?_⟩
 ·obtain⟨tp,p,e⟩:=h.syn;exact⟨tp,p,ZeD e1 hS e hk⟩
 ·obtain⟨tp,p,e⟩:=h.rng;exact⟨tp,p,ZeD e2 hS e hk⟩
end
section
open Go.RowKit Go.Shelf
attribute [local go_sem] Oper.semAt_some
theorem Zme{W:World}{q:Nat}{y:Lot}(h:BlkB W q (lotC7 y) 54):Lots W W.heap.size (some ⟨q,0,none⟩) 1 [y]:=by
 refine⟨rfl,fun _=>⟨q,0,rfl,h.lt,fun j z hj k u hk=> ?_⟩⟩
 cases j with
 |zero=>
  simp only[List.getElem?_cons_zero,Option.some.injEq] at hj
  subst hj
  rw[Nat.zero_mul,Nat.zero_add]
  exact h.cell k (by rw[←Zc8];simpa using hk)
 |succ j=>simp at hj
theorem Own.isCells{α:Type}{enc:α→List Value}{k base:Nat}{e:TypeId}{w:World}{v:Value}{xs:List α}(h:Own enc k e w base v xs)(j:Nat)(o:Obj)(hj:some j=v.ownBlock)(ho:w.heap[j]?=some o):o.isCells=true:=by
 rcases h.2 with ⟨rfl,_⟩|⟨g,cap,cur,rfl,_,hg,_⟩
 ·simp[Value.ownBlock] at hj
 ·simp only[Value.ownBlock,Option.some.injEq] at hj
  subst hj
  rw[hg] at ho
  injection ho with ho
  rw[←ho]
  rfl
def subV{α:Type}{p:α→Prop}(l:List {z:α//p z}):List α:=l.map (fun z=>z.1)
theorem Zcj{α:Type}{p:α→Prop}(l:List {z:α//p z})(x:{z:α//p z}):subV (l++[x])=subV l++[x.1]:=by unfold subV;rw[List.map_append];rfl
theorem ZhW{α:Type}{p:α→Prop}(l:List {z:α//p z}):(subV l).length=l.length:=List.length_map _
theorem Zki(Bs Bi:Nat)(A:Option Addr)(len cap:Nat)(xs:List Lot)(i:List UInt8)(w:World)(hBs:Box w Bs 22 (.slice A len cap))(hBi:Box w Bi 9 (.string ⟨i.toArray⟩))(hs:Lots w w.heap.size A len xs)(hl:len≤1000000):
 Calls Tryz.prog 166 #[.slice none 0 0,.func (.func 157) #[] #[.pointer (some ⟨Bs,0,none⟩),.pointer (some ⟨Bi,0,none⟩)]] w (RetOwn L7 7 54 w.heap.size w (lotsOf xs i)):=by
 have HPO:=hdz (show RetOwn L7 7 54 w.heap.size w (lotsOf xs i)=fun e w'=>∃A c,e=.returned (.slice A (lotsOf xs i).length c)∧Own L7 7 54 w' w.heap.size (.slice A (lotsOf xs i).length c) (lotsOf xs i)∧Below w.heap.size w w' from rfl)
 have hbA:Below w.heap.size w (w.alloc (.cells #[.slice none 0 0] 22)):=(Below.refl _ _).alloc (Nat.le_refl _) _
 have HSEQ:=hdz (Zga Fence.wide 4 trivial rfl (by omega) (fun b=>b<w.heap.size) Bs Bi w.heap.size A len cap xs i (w.alloc (.cells #[.slice none 0 0] 22)) (hBs.here hbA) (hBi.here hbA) hbA.size (hs.below hbA) hl (fun _ h=>h) hBi.lt)
 have HB0:=hdz (Box.new w 22 (.slice none 0 0))
 have HBA:=hdz hbA
 have HLL:=hdz (show(lotsOf xs i).length≤1000000 from Nat.le_trans (List.length_filter_le _ _) (by rw[←hs.1];exact hl))
 generalize RetOwn L7 7 54 w.heap.size w (lotsOf xs i)=post at*
 have hsz:(w.alloc (.cells #[.slice none 0 0] 22)).heap.size=w.heap.size+1:=by simp
 have HSZ:=hdz hsz
 clear hBs hBi hs hl hbA hsz
 refine(callsIn_wide (n:=5)).1 ?_
 refine callsIn_of_wp_marks Tryz.func166 rfl trivial ?_ rfl
 simp only[Tryz.ntmps166,List.size_toArray,List.length_cons,List.length_nil,Nat.reduceAdd,Nat.reduceSub,Array.replicate_succ,Array.replicate_zero,List.push_toArray,List.append_toArray,List.nil_append,List.cons_append]
 gi_wp2_with fail
 generalize w.alloc _=W1 at*
 refine wpIn_rangeFunc_ownH (α:={z:Lot//z∈lotsOf xs i}) (F:=Fence.wide) (n:=5) rfl (by omega) (gf:=157) (lb:=#[.pointer (some ⟨Bs,0,none⟩),.pointer (some ⟨Bi,0,none⟩)]) rfl trivial (enters_of Tryz.func157 (by kernel_rfl) rfl)
  HSEQ.out (fun h k=>h.trans k) ?hKb (Below.refl _ _) (fun _=>rfl)
  (fun(pre:List {z:Lot//z∈lotsOf xs i}) W=>∃A1 c1,Box W w.heap.size 22 (.slice A1 (subV pre).length c1)∧Own L7 7 54 W w.heap.size (.slice A1 (subV pre).length c1) (subV pre)∧Below w.heap.size w W∧W1.heap.size≤W.heap.size) (fun _ _ _=>False)
  (fun pre W W' row ⟨A1,c1,h1,h2,h3,h4⟩ hg hr=>⟨A1,c1,h1.turned hg hr,h2.turned hg hr,Zae h3 hg h3.size (fun g e=>by have:=(hr g e).1;have:=HSZ.out;omega),Nat.le_trans h4 hg.size⟩)
  (fun _ _ _ _ _ h _ _=>h) ⟨none,0,HB0.out,Own.nil,HBA.out,Nat.le_refl _⟩
  (fun x a' W=>∃Bx,w.heap.size<Bx∧BlkB W Bx (lotC7 x.1) 54∧a'={tmps:=#[.slice none 0 0,.func (.func 157) #[] #[.pointer (some ⟨Bs,0,none⟩),.pointer (some ⟨Bi,0,none⟩)],.pointer (some ⟨w.heap.size,0,none⟩),undef,.slice none 0 0,.pointer (some ⟨Bx,0,none⟩),.func (.func 157) #[] #[.pointer (some ⟨Bs,0,none⟩),.pointer (some ⟨Bi,0,none⟩)],LotV x.1,undef,undef,undef,undef,undef],defers:=[]})
  (fun x a' _ W W' row ⟨Bx,h1,h2,h3⟩ hg hr=>⟨Bx,h1,(hg.block Bx h2.lt (fun e=>by
    obtain⟨_,o,ho,hc⟩:=hr _ e.symm
    unfold BlkB at h2
    rw[h2] at ho
    injection ho with ho
    rw[←ho] at hc
    cases hc)).trans h2,h3⟩) ?assign ?body ?done ?stop
 case hKb=>
  intro W l o o' hl _ _ _
  exact KeepS.put (fun e=>by have:=HSZ.out;omega) _
 case stop=>intro D c pre W _ _ h;exact h.elim
 case assign=>
  rintro lr pre x W K ⟨A1,c1,hb,ho,hbl,hsz⟩ hK
  dsimp only[LotV,S]
  gi_wp2
  refine hK _ _ ((KeepsOthers.alloc _ _).from _) (KeepS.below ((Below.refl _ W).alloc (Nat.le_refl _) _)) ⟨A1,c1,hb.alloc _,ho.alloc _,hbl.alloc hbl.size _,by simp;omega⟩ ⟨W.heap.size,by have:=HSZ.out;omega,heap_alloc_new W _,rfl⟩
 case body=>
  rintro lr pre x a' W hlr ⟨rr,hrr⟩ ⟨A1,c1,hb,ho,hbl,hsz⟩ ⟨Bx,hBx,bX,rfl⟩ hlen
  have HSN:=hdz (Zcj pre x)
  have hle:(subV pre).length≤1000000:=by rw[ZhW];have:=HLL.out;omega
  generalize subV pre=l at*
  obtain⟨y,hy⟩:=x
  have q0:=bX.cell 0 rfl;have q1:=bX.cell 1 rfl;have q2:=bX.cell 2 rfl;have q3:=bX.cell 3 rfl;have q4:=bX.cell 4 rfl;have q5:=bX.cell 5 rfl;have q6:=bX.cell 6 rfl
  have cb:=hb.cell
  have HBX:=hdz hb;have HO:=hdz ho;have HBL:=hdz hbl;have HBXX:=hdz bX;have HSZW:=hdz hsz
  have HOA:=hdz (ho.alloc (.cells #[.string ⟨y.id.toArray⟩,.string ⟨y.inst.toArray⟩,.int .i64 y.acq,.int .i64 y.opn,.string ⟨y.q.toArray⟩,.string ⟨y.c.toArray⟩,.string ⟨y.u.toArray⟩] 54))
  have HSL:=hdz (Zme (y:=y) (show BlkB (W.alloc (.cells #[.string ⟨y.id.toArray⟩,.string ⟨y.inst.toArray⟩,.int .i64 y.acq,.int .i64 y.opn,.string ⟨y.q.toArray⟩,.string ⟨y.c.toArray⟩,.string ⟨y.u.toArray⟩] 54)) W.heap.size (lotC7 y) 54 from heap_alloc_new W _))
  have HBA2:=hdz (hb.alloc (.cells #[.string ⟨y.id.toArray⟩,.string ⟨y.inst.toArray⟩,.int .i64 y.acq,.int .i64 y.opn,.string ⟨y.q.toArray⟩,.string ⟨y.c.toArray⟩,.string ⟨y.u.toArray⟩] 54))
  have HBB:=hdz (hbl.alloc hbl.size (.cells #[.string ⟨y.id.toArray⟩,.string ⟨y.inst.toArray⟩,.int .i64 y.acq,.int .i64 y.opn,.string ⟨y.q.toArray⟩,.string ⟨y.c.toArray⟩,.string ⟨y.u.toArray⟩] 54))
  have HLE:=hdz (show l.length+1≤100000000000 by omega)
  have HGA:=hdz (World.grownBy_alloc W (.cells #[.string ⟨y.id.toArray⟩,.string ⟨y.inst.toArray⟩,.int .i64 y.acq,.int .i64 y.opn,.string ⟨y.q.toArray⟩,.string ⟨y.c.toArray⟩,.string ⟨y.u.toArray⟩] 54) none)
  have hlt:w.heap.size<W.heap.size:=hb.lt
  clear hb ho hbl bX hsz hrr hle hlen
  gi_wp2_with (gi_at_builtin;refine Zf9 _ rfl (.tmp 8) (.tmp 10) _ rfl Zb0 Zah ZbC (base:=w.heap.size) (.slice A1 l.length c1) l rfl HOA.out _ _ 1 1 [y] rfl HSL.out HLE.out HBB.out.size ?_;intro A2 c2 w2 ho2 hg2 hat2;have hb2:=HBA2.out.grown hg2 (HOA.out.neBox HBA2.out (by decide));have cb2:=hb2.cell;have fb2:=hb2.frozen)
  have hown:∀g,(Value.slice A1 l.length c1).ownBlock=some g→w.heap.size≤g∧g≠w.heap.size:=fun g e=>by
   obtain⟨A',c',hv,_,_,_,h5⟩:=HOA.out.form
   exact⟨(h5 g e).2.1,fun e2=>HOA.out.neBox HBA2.out (by decide) (by rw[e,e2])⟩
  refine⟨?_,?_,A2,c2,?_,?_,?_,?_⟩
  ·exact((KeepsOthers.alloc _ _).trans ((KeepsOthers.of_grownBy hg2 (fun j o e ho=>HOA.out.isCells j o e.symm ho)).trans (KeepsOthers.setCell _ _ _))).from _
  ·exact(KeepS.below ((Below.refl _ W).alloc (Nat.le_refl _) _)).trans ((KeepS.grown hg2 (fun r e h=>by have:=(hown r e).1;omega)).trans (KeepS.set (S:=fun b=>b<w.heap.size) (p:=⟨w.heap.size,0,none⟩) (Nat.lt_irrefl w.heap.size) _))
  ·rw[HSN.out,List.length_append];exact hb2.set_ _
  ·rw[HSN.out,List.length_append];exact ho2.far (fun h=>ho2.neBox hb2 (by decide) h.symm) _
  ·exact(Zae HBB.out hg2 HBB.out.size (fun g e=>(hown g e).1)).setCell (p:=⟨w.heap.size,0,none⟩) (Nat.le_refl _) _
  ·have:=hg2.size;have:=HSZW.out;simp at *; omega
 case done=>
  rintro D ys W hD hS ⟨A1,c1,hb,ho,hbl,hsz⟩ hK
  have cb:=hb.cell
  have HYS:=hdz (show subV ys=lotsOf xs i from hS)
  have HO:=hdz ho;have HBL:=hdz hbl
  rw[HYS.out] at cb HO
  clear ho hbl hb hS
  gi_wp2
  refine⟨by simp,.inl ⟨_,_,rfl,run_takeDeferred hK,?_⟩⟩
  refine⟨_,results_tmp rfl _ _ _,?_⟩
  rw[HPO.out]
  have hD':=HSZ.out
  exact⟨A1,c1,rfl,HO.out.turned (grownBy_putObj' W D (.deferred none)) (B:=w.heap.size) (fun r e=>by cases e;exact⟨by omega,_,hK,rfl⟩),HBL.out.grown (grownBy_putObj' W D (.deferred none)) HBL.out.size (fun r e=>by cases e;omega)⟩
theorem Zhb(Bs Bi:Nat)(A:Option Addr)(len cap:Nat)(xs:List Lot)(i:List UInt8)(w:World)(hBs:Box w Bs 22 (.slice A len cap))(hBi:Box w Bi 9 (.string ⟨i.toArray⟩))(hs:Lots w w.heap.size A len xs)(hl:len≤1000000):
 Calls Tryz.prog 123 #[.func (.func 157) #[] #[.pointer (some ⟨Bs,0,none⟩),.pointer (some ⟨Bi,0,none⟩)]] w (RetOwn L7 7 54 w.heap.size w (lotsOf xs i)):=by
 have HPO:=hdz (show RetOwn L7 7 54 w.heap.size w (lotsOf xs i)=fun e w'=>∃A c,e=.returned (.slice A (lotsOf xs i).length c)∧Own L7 7 54 w' w.heap.size (.slice A (lotsOf xs i).length c) (lotsOf xs i)∧Below w.heap.size w w' from rfl)
 have HA:=hdz (Zki Bs Bi A len cap xs i w hBs hBi hs hl)
 rw[HPO.out] at HA
 generalize RetOwn L7 7 54 w.heap.size w (lotsOf xs i)=post at*
 clear hBs hBi hs hl
 go_enter Tryz.func123,Tryz.ntmps123
 go_wp2_with fail
 refine HA.out.mono ?_
 rintro e w1 ⟨A1,c1,rfl,ho,hb⟩
 have HO:=hdz ho
 clear ho
 go_wp2_with fail
 first|go_ret|skip
 rw[HPO.out]
 exact⟨A1,c1,rfl,HO.out,hb⟩
theorem Zkj(A:Option Addr)(n c:Nat)(xs:List Lot)(i:List UInt8)(w:World)(hs:Lots w w.heap.size A n xs)(hl:n≤1000000):
 Calls Tryz.prog 72 #[.slice A n c,S i] w (RetOwn L7 7 54 w.heap.size w (lotsOf xs i)):=by
 have HPO:=hdz (show RetOwn L7 7 54 w.heap.size w (lotsOf xs i)=fun e w'=>∃A c,e=.returned (.slice A (lotsOf xs i).length c)∧Own L7 7 54 w' w.heap.size (.slice A (lotsOf xs i).length c) (lotsOf xs i)∧Below w.heap.size w w' from rfl)
 have hb0:Below w.heap.size w ((w.alloc (.cells #[.slice A n c] 22)).alloc (.cells #[.string ⟨i.toArray⟩] 9)):=((Below.refl _ _).alloc (Nat.le_refl _) _).alloc (by simp) _
 have HLO:=hdz (Zju A n c i w)
 have HCO:=hdz (Zhb w.heap.size (w.heap.size+1) A n c xs i ((w.alloc (.cells #[.slice A n c] 22)).alloc (.cells #[.string ⟨i.toArray⟩] 9)) ((Box.new w _ _).alloc _) (by have:=Box.new (w.alloc (.cells #[.slice A n c] 22)) 9 (.string ⟨i.toArray⟩);simpa using this) ((hs.below hb0).more hb0.size) hl)
 have HB0:=hdz hb0
 generalize RetOwn L7 7 54 w.heap.size w (lotsOf xs i)=post at*
 clear hs hl hb0
 unfold S at*
 unfold RetOwn at HCO
 go_enter Tryz.func72,Tryz.ntmps72
 go_wp2_with fail
 refine HLO.out.mono ?_
 rintro e w1 ⟨rfl,rfl⟩
 go_wp2_with fail
 refine HCO.out.mono ?_
 rintro e w2 ⟨A1,c1,rfl,ho,hb⟩
 have HO:=hdz ho
 clear ho
 go_wp2_with fail
 first|go_ret|skip
 rw[HPO.out]
 exact⟨A1,c1,rfl,HO.out.base_ HB0.out.size,HB0.out.trans (hb.mono HB0.out.size)⟩
end
end Go.Proofs.YtpnncoinlopndaaGreatDoor
