/- Lw3, Lc, Qp, Gv, Lsz, Rl, Rc. -/
import Derived.Test.YtpnncoinlopndaaGreatDoorQGSm13
import Derived.Test.YtpnncoinlopndaaGreatDoorCards
import Derived.Test.YtpnncoinlopndaaGreatDoorTie
import Derived.Lib.SmallJoins
import Derived.LaidSub
import Derived.ProofKit
import Derived.OpenShut
import Derived.Carry
import Derived.LaidMore
import Derived.Deep.Slices
import Derived.Deep.DeepHandedRow
set_option maxRecDepth 100000
set_option maxHeartbeats 1000000
namespace Go.Proofs.YtpnncoinlopndaaGreatDoor
open Go.Lib renaming hid→hdz
section
open Go.RowKit Go.Shelf
theorem Zg0(A:Option Addr)(n c:Nat)(xs:List Lot)(m:Mp)(w:World)(hs:Lots w w.heap.size A n xs)(hn:n≤9223372036854775807)(hm:m.Max):
 Calls Tryz.prog 6 #[.slice A n c,MpV m] w fun e w'=>e=.returned (.bool (grtL xs||longM m))∧Below w.heap.size w w':=by
 have H:=hdz ((Below.refl w.heap.size w).alloc (Nat.le_refl _) (.cells #[.string ⟨m.cause.toArray⟩,.int .i64 m.day,.string ⟨m.inst.toArray⟩,.string ⟨m.other.toArray⟩,.string ⟨m.ratio.n.toArray⟩,.string ⟨m.ratio.d.toArray⟩,.string ⟨m.share.n.toArray⟩,.string ⟨m.share.d.toArray⟩,.string ⟨m.price.n.toArray⟩,.string ⟨m.price.d.toArray⟩,.bool m.keep] 28))
 have HB:=hdz (show BlkB (w.alloc (.cells #[.string ⟨m.cause.toArray⟩,.int .i64 m.day,.string ⟨m.inst.toArray⟩,.string ⟨m.other.toArray⟩,.string ⟨m.ratio.n.toArray⟩,.string ⟨m.ratio.d.toArray⟩,.string ⟨m.share.n.toArray⟩,.string ⟨m.share.d.toArray⟩,.string ⟨m.price.n.toArray⟩,.string ⟨m.price.d.toArray⟩,.bool m.keep] 28)) w.heap.size #[.string ⟨m.cause.toArray⟩,.int .i64 m.day,.string ⟨m.inst.toArray⟩,.string ⟨m.other.toArray⟩,.string ⟨m.ratio.n.toArray⟩,.string ⟨m.ratio.d.toArray⟩,.string ⟨m.share.n.toArray⟩,.string ⟨m.share.d.toArray⟩,.string ⟨m.price.n.toArray⟩,.string ⟨m.price.d.toArray⟩,.bool m.keep] 28 from heap_alloc_new w _)
 have HGR:=hdz (Ziy A n c xs (w.alloc (.cells #[.string ⟨m.cause.toArray⟩,.int .i64 m.day,.string ⟨m.inst.toArray⟩,.string ⟨m.other.toArray⟩,.string ⟨m.ratio.n.toArray⟩,.string ⟨m.ratio.d.toArray⟩,.string ⟨m.share.n.toArray⟩,.string ⟨m.share.d.toArray⟩,.string ⟨m.price.n.toArray⟩,.string ⟨m.price.d.toArray⟩,.bool m.keep] 28)) (hs.here H.out) hn)
 have HLO:=hdz (fun W=>Zix m W hm)
 generalize grtL xs=gx at*
 generalize longM m=lm at*
 clear hs hn hm
 unfold MpV mpA at*
 unfold S at*
 cases gx with
 |true=>
  go_enter Tryz.func6,Tryz.ntmps6
  go_wp2_with fail
  generalize w.alloc _=W at*
  refine HGR.out.mono ?_
  rintro e w1 ⟨rfl,hb⟩
  go_wp2_with fail
  go_ret
  exact⟨Zaf (Bool.true_or lm).symm,H.out.trans (hb.mono H.out.size)⟩
 |false=>
  go_enter Tryz.func6,Tryz.ntmps6
  go_wp2_with fail
  generalize w.alloc _=W at*
  refine HGR.out.mono ?_
  rintro e w1 ⟨rfl,hb⟩
  have HB1:=hdz (HB.out.here hb)
  have c0:=HB1.out.cell 0 rfl;have c1:=HB1.out.cell 1 rfl;have c2:=HB1.out.cell 2 rfl;have c3:=HB1.out.cell 3 rfl;have c4:=HB1.out.cell 4 rfl;have c5:=HB1.out.cell 5 rfl;have c6:=HB1.out.cell 6 rfl;have c7:=HB1.out.cell 7 rfl;have c8:=HB1.out.cell 8 rfl;have c9:=HB1.out.cell 9 rfl;have c10:=HB1.out.cell 10 rfl
  go_wp2_with fail
  refine(HLO.out _).mono ?_
  rintro e w2 ⟨rfl,hb2⟩
  go_wp2_with fail
  go_ret
  exact⟨Zaf (Bool.false_or lm).symm,H.out.trans ((hb.trans (hb2.mono hb.size)).mono H.out.size)⟩
end
section
open Go.RowKit Go.Shelf
end
section
open Go.RowKit Go.Shelf
end
section
open Go.RowKit Go.Shelf
def G10(g:Gain):List Value:=[S g.cause,S g.lot,S g.inst,.int .i64 g.acq,.int .i64 g.closed,S g.q,S g.proceeds,S g.cost,S g.deferred,S g.replaced]
theorem Zfz(g:Gain):(G10 g).length=10:=rfl
theorem Zli(g:Gain):∀u∈G10 g,u.oneCell'=true:=by
 intro u hu
 simp only[G10,List.mem_cons,List.mem_nil_iff,or_false] at hu
 rcases hu with rfl|rfl|rfl|rfl|rfl|rfl|rfl|rfl|rfl|rfl<;>rfl
def S6(s:Stp):List Value:=[S s.cause,S s.src,S s.dst,S s.q,S s.made,S s.cost]
theorem Zl8(s:Stp):(S6 s).length=6:=rfl
theorem ZmG(s:Stp):∀u∈S6 s,u.oneCell'=true:=by
 intro u hu
 simp only[S6,List.mem_cons,List.mem_nil_iff,or_false] at hu
 rcases hu with rfl|rfl|rfl|rfl|rfl|rfl<;>rfl
abbrev Gns(w:World)(B:Nat)(A:Option Addr)(n:Nat)(xs:List Gain):Prop:=Sl G10 10 w B A n xs
abbrev Sts(w:World)(B:Nat)(A:Option Addr)(n:Nat)(xs:List Stp):Prop:=Sl S6 6 w B A n xs
theorem ZjN:ElemT Tryz.prog 31 57 10 144:=ZbP Tryz.underlying31 (by kernel_rfl) (by decide) (by decide)
theorem ZjO:ElemT Tryz.prog 32 80 6 96:=ZbP Tryz.underlying32 (by kernel_rfl) (by decide) (by decide)
theorem Sl.gain{w:World}{B:Nat}{A:Option Addr}{n:Nat}{xs:List Gain}{i:Nat}(h:Gns w B A n xs)(hi:i<n):
 ∃b off x,A=some ⟨b,off,none⟩∧b<B∧xs[i]?=some x∧w.cell? ⟨b,off+i*10,none⟩=some (.string ⟨x.cause.toArray⟩)∧w.cell? ⟨b,off+i*10+1,none⟩=some (.string ⟨x.lot.toArray⟩)∧w.cell? ⟨b,off+i*10+2,none⟩=some (.string ⟨x.inst.toArray⟩)∧
  w.cell? ⟨b,off+i*10+3,none⟩=some (.int .i64 x.acq)∧w.cell? ⟨b,off+i*10+4,none⟩=some (.int .i64 x.closed)∧w.cell? ⟨b,off+i*10+5,none⟩=some (.string ⟨x.q.toArray⟩)∧w.cell? ⟨b,off+i*10+6,none⟩=some (.string ⟨x.proceeds.toArray⟩)∧
  w.cell? ⟨b,off+i*10+7,none⟩=some (.string ⟨x.cost.toArray⟩)∧w.cell? ⟨b,off+i*10+8,none⟩=some (.string ⟨x.deferred.toArray⟩)∧w.cell? ⟨b,off+i*10+9,none⟩=some (.string ⟨x.replaced.toArray⟩):=by
 obtain⟨b,off,x,hA,hb,hx,hc⟩:=h.at_ hi
 exact⟨b,off,x,hA,hb,hx,hc 0 _ rfl,hc 1 _ rfl,hc 2 _ rfl,hc 3 _ rfl,hc 4 _ rfl,hc 5 _ rfl,hc 6 _ rfl,hc 7 _ rfl,hc 8 _ rfl,hc 9 _ rfl⟩
theorem Sl.step{w:World}{B:Nat}{A:Option Addr}{n:Nat}{xs:List Stp}{i:Nat}(h:Sts w B A n xs)(hi:i<n):
 ∃b off x,A=some ⟨b,off,none⟩∧b<B∧xs[i]?=some x∧w.cell? ⟨b,off+i*6,none⟩=some (.string ⟨x.cause.toArray⟩)∧w.cell? ⟨b,off+i*6+1,none⟩=some (.string ⟨x.src.toArray⟩)∧w.cell? ⟨b,off+i*6+2,none⟩=some (.string ⟨x.dst.toArray⟩)∧
  w.cell? ⟨b,off+i*6+3,none⟩=some (.string ⟨x.q.toArray⟩)∧w.cell? ⟨b,off+i*6+4,none⟩=some (.string ⟨x.made.toArray⟩)∧w.cell? ⟨b,off+i*6+5,none⟩=some (.string ⟨x.cost.toArray⟩):=by
 obtain⟨b,off,x,hA,hb,hx,hc⟩:=h.at_ hi
 exact⟨b,off,x,hA,hb,hx,hc 0 _ rfl,hc 1 _ rfl,hc 2 _ rfl,hc 3 _ rfl,hc 4 _ rfl,hc 5 _ rfl⟩
theorem Zg1(m:Mp)(x:Plan)(old:List Lot)(i:Nat):gainTo m x old (i+1)=gainTo m x old i++(match old[i]? with
 |some y=>if x.p.getD i 0=0∧x.f.getD i 0=0 then[] else[{cause:=m.cause,lot:=y.id,inst:=m.other,acq:=y.acq,closed:=m.day,q:=[],proceeds:=txtL (x.p.getD i 0),cost:=txtL (x.f.getD i 0),deferred:=[],replaced:=[]}]
 |none=>[]):=by
 unfold gainTo
 rw[List.range_succ,List.filterMap_append]
 congr 1
 simp only[List.filterMap_cons,List.filterMap_nil]
 cases old[i]? with
 |none=>rfl
 |some y=>
  by_cases h:x.p.getD i 0=0∧x.f.getD i 0=0
  ·simp only[if_pos h]
  ·simp only[if_neg h]
theorem Ziz(m:Mp)(x:Plan)(old:List Lot)(i:Nat):(gainTo m x old i).length≤i:=by
 unfold gainTo
 exact Nat.le_trans (List.length_filterMap_le _ _) (by rw[List.length_range];exact Nat.le_refl _)
theorem Zlj(m:Mp)(x:Plan)(k:Nat)(y:Lot):(stp2 m x k y).length≤2:=by
 have h:∀s,(stp1 s).length≤1:=fun s=>by unfold stp1;split<;>simp
 unfold stp2
 simp only
 split
 ·exact Nat.le_trans (h _) (by omega)
 ·rw[List.length_append]
  have:=h {cause:=m.cause,src:=y.id,dst:=newId m.cause (if x.n.getD k 0=0 then 1 else cntN x.n k+1),q:=if m.keep=true then[] else y.q,made:=txtL (x.n.getD k 0),cost:=txtL (x.mv k)}
  have:=h {cause:=m.cause,src:=y.id,dst:=[],q:=[],made:=[],cost:=txtL (x.f.getD k 0)}
  omega
def toR(m:Mp)(x:Plan)(N i:Nat):List (List UInt8):=(List.range N).map fun j=>if x.n.getD j 0=0 then(if j<i∧x.parts≠0 then newId m.cause 1 else[]) else newId m.cause (cntN x.n j+1)
def toP(N:Nat)(l:List (Nat×Lot)):List (List UInt8):=l.foldl (fun a z=>a.set z.1 z.2.id) (List.replicate N [])
theorem ZhL(N:Nat)(l:List (Nat×Lot))(z:Nat×Lot):toP N (l++[z])=(toP N l).set z.1 z.2.id:=by unfold toP;rw[List.foldl_append];rfl
theorem ZjP(N:Nat)(l:List (Nat×Lot)):(toP N l).length=N:=by
 unfold toP
 have h:∀(l:List (Nat×Lot)) (a:List (List UInt8)),(l.foldl (fun a z=>a.set z.1 z.2.id) a).length=a.length:=by
  intro l
  induction l with
  |nil=>intro a;rfl
  |cons z l ih=>intro a;rw[List.foldl_cons,ih,List.length_set]
 rw[h,List.length_replicate]
theorem ZjQ(m:Mp)(x:Plan)(old:List Lot)(i:Nat)(hi:i≤old.length):
 toP old.length (freshTo m x old i)=(List.range old.length).map fun j=>if j<i∧x.n.getD j 0≠0 then newId m.cause (cntN x.n j+1) else[]:=by
 induction i with
 |zero=>
  refine List.ext_getElem (by simp[ZjP]) fun j h1 h2=> ?_
  simp[toP,freshTo]
 |succ i ih=>
  have hlt:i<old.length:=by omega
  rw[Zcd,List.getElem?_eq_getElem hlt]
  simp only
  by_cases h0:x.n.getD i 0=0
  ·rw[if_pos h0,List.append_nil,ih (by omega)]
   refine List.map_congr_left fun j _=> ?_
   by_cases hj:j<i
   ·simp only[hj,show j<i+1 by omega]
   ·by_cases hji:j=i
    ·subst hji;rw[if_neg (fun h=>by omega),if_neg (fun h=>h.2 h0)]
    ·simp[hj,show ¬j<i+1 by omega]
  ·rw[if_neg h0,ZhL,ih (by omega)]
   refine List.ext_getElem (by simp) fun j h1 h2=> ?_
   rw[List.getElem_set]
   simp only[List.getElem_map,List.getElem_range]
   by_cases hji:i=j
   ·subst hji
    rw[if_pos rfl,if_pos ⟨by omega,h0⟩]
    rfl
   ·rw[if_neg hji]
    by_cases hj:j<i
    ·simp only[hj,show j<i+1 by omega]
    ·simp only[hj,show ¬j<i+1 by omega]
theorem ZmH(m:Mp)(x:Plan)(old:List Lot):toP old.length (freshL m x old)=toR m x old.length 0:=by
 unfold freshL toR
 rw[ZjQ m x old _ (Nat.le_refl _)]
 refine List.map_congr_left fun j hj=> ?_
 have hj:=List.mem_range.1 hj
 by_cases h0:x.n.getD j 0=0<;>simp[hj]
theorem ZjR(m:Mp)(x:Plan)(N i j:Nat)(hj:j<N):(toR m x N i)[j]?=some (if x.n.getD j 0=0 then(if j<i∧x.parts≠0 then newId m.cause 1 else[]) else newId m.cause (cntN x.n j+1)):=by
 unfold toR
 rw[List.getElem?_map,List.getElem?_range hj]
 rfl
theorem ZhM(m:Mp)(x:Plan)(N i:Nat)(h:x.n.getD i 0≠0∨x.parts=0):toR m x N (i+1)=toR m x N i:=by
 unfold toR
 refine List.map_congr_left fun j _=> ?_
 by_cases hji:j=i
 ·subst hji
  rcases h with h|h
  ·rw[if_neg h,if_neg h]
  ·simp[h]
 ·by_cases hj:j<i
  ·simp only[hj,show j<i+1 by omega]
  ·simp only[hj,show ¬j<i+1 by omega]
theorem ZmI(m:Mp)(x:Plan)(N i:Nat)(_hi:i<N)(h0:x.n.getD i 0=0)(hp:x.parts≠0):(toR m x N i).set i (newId m.cause 1)=toR m x N (i+1):=by
 unfold toR
 refine List.ext_getElem (by simp) fun j h1 h2=> ?_
 rw[List.getElem_set]
 simp only[List.getElem_map,List.getElem_range]
 by_cases hji:i=j
 ·subst hji
  rw[if_pos rfl,if_pos h0,if_pos ⟨by omega,hp⟩]
 ·rw[if_neg hji]
  by_cases hj:j<i
  ·simp only[hj,show j<i+1 by omega]
  ·simp only[hj,show ¬j<i+1 by omega]
def strA(l:List (List UInt8)):Array Value:=(l.map fun s=>Value.string ⟨s.toArray⟩).toArray
theorem ZdS(l:List (List UInt8))(j:Nat)(s:List UInt8)(h:l[j]?=some s):(strA l)[j]?=some (.string ⟨s.toArray⟩):=by unfold strA;simp[h]
theorem ZhN(l:List (List UInt8))(j:Nat)(s:List UInt8):(strA l).setIfInBounds j (.string ⟨s.toArray⟩)=strA (l.set j s):=by unfold strA;simp[List.map_set]
theorem ZjS(N:Nat):partA [] N 0=strA (toP N []):=by
 apply Array.ext_getElem?
 intro j
 unfold partA strA toP
 rcases Nat.lt_or_ge j N with h|h
 ·simp[h]
 ·simp[h]
end
section
open Go.RowKit Go.Shelf
def Lot.I(y:Lot):Prop:=(-9223372036854775808≤y.acq∧y.acq≤9223372036854775807)∧ -9223372036854775808≤y.opn∧y.opn≤9223372036854775807
theorem ZmJ{xs:List Lot}(h:grtL xs=false)(hi:∀y∈xs,y.I):xs.length≤1002∧∀y∈xs,y.Sz 40∧y.q.length≤13∧y.c.length≤13:=by
 unfold grtL at h
 simp only[Bool.or_eq_false_iff,decide_eq_false_iff_not] at h
 refine⟨by omega,fun y hy=> ?_⟩
 have h1:grt1 y=false:=by
  have:=h.2
  rw[List.any_eq_false] at this
  simpa using this y hy
 unfold grt1 at h1
 simp only[Bool.or_eq_false_iff,decide_eq_false_iff_not] at h1
 obtain⟨⟨a1,a2⟩,b1,b2⟩:=hi y hy
 obtain⟨⟨⟨⟨c1,c2⟩,c3⟩,c4⟩,c5⟩:=h1
 exact⟨⟨by omega,by omega,by omega,by omega,by omega,a1,a2,b1,b2⟩,by omega,by omega⟩
theorem Lot.Sz.more{L K:Nat}{y:Lot}(h:y.Sz L)(hK:L≤K):y.Sz K:=⟨Nat.le_trans h.id hK,Nat.le_trans h.inst hK,Nat.le_trans h.q hK,Nat.le_trans h.c hK,Nat.le_trans h.u hK,h.a1,h.a2,h.o1,h.o2⟩
end
section
open Go.ChangeShapes Go.WideShapes Go.ChangeAt Go.RowKit Go.Deep
theorem ZmK:laidOutB Tryz.prog=true:=by kernel_rfl
theorem own:ownKnob Tryz.prog.godebug=none:=by kernel_rfl
section
variable {H:Type} {enc:TypeId×Value→H} {P:Program}
theorem ZfA(hl:laidOutB P=true):∀{ts:List TypeId} {vs:List Value} {ds:List (DataW H)} {ps:List MemPlace} {W W':World} {sp:Nat→Bool},(∀t∈ts,P.readableRec t=true∧t<P.types.size)→
 DataW.TrodAll enc P W 0 (fun _=>true) true ts vs ds ps→(∀p∈ps,W.sameAt W' p)→(∀p∈ps,sp p.block=true)→DataW.TrodAll enc P W' 0 sp true ts vs ds ps:=by
 intro ts
 induction ts with
 |nil=>
  intro vs ds ps W W' sp _ h _ _
  obtain⟨rfl,rfl,rfl⟩:=trodAll_nil h
  exact trodAll_mk0
 |cons t ts ih=>
  intro vs ds ps W W' sp hr h hs hp
  obtain⟨v,vs',d,ds',p,q,rfl,rfl,rfl,h1,h2⟩:=trodAll_cons h
  refine trodAll_cons_mk (WideElems.Trod_stays hl (hr t (by simp)).1 (hr t (by simp)).2 h1 (fun x hx=>hs x (by simp[hx])) (fun x hx=>hp x (by simp[hx]))) (ih (fun t' ht'=>hr t' (by simp[ht'])) h2 (fun x hx=>hs x (by simp[hx])) (fun x hx=>hp x (by simp[hx])))
theorem ZiA{f:Func}{s:ChangeSpec}{apart fresh handsOn again:Bool}{W W':World}{args:Array Value}{ds gs:List (DataW H)}{before:List MemPlace}{tb:TypeId}
 (hl:laidOutB P=true) (hr:∀t∈f.params.toList,P.readableRec t=true∧t<P.types.size) (hrt:f.resultTypes=#[tb]) (hbt:P.underlying tb=some .bool) (hv:s.vars=[])
 (hfn:s.fn H (ds++gs)={results:=[.lit (.bool true)],args:=ds})
 (hW:DataW.Whole enc P f.params.toList s.vars apart W args.toList ds gs before) (hb:Below W.heap.size W W'):s.post enc P f apart fresh handsOn again W args (.bool true) W':=by
 have hlt:∀p∈before,p.block<W.heap.size:=hW.lt
 have hold:∀p∈before,(fun b=>decide (b<W.heap.size)) p.block=true:=fun p hp=>by simpa using hlt p hp
 have hW':=hW
 obtain⟨p,q,hA,hV,hpq,hz,hn⟩:=hW
 rw[hv] at hV
 obtain⟨rfl,rfl⟩:=trodVars_none hV
 simp only[List.append_nil] at hpq
 subst hpq
 have hargs:∀sp:Nat→Bool,(∀x∈before,sp x.block=true)→DataW.TrodAll enc P W' 0 sp true f.params.toList args.toList ds before:=
  fun sp hs=>ZfA hl hr hA (fun x hx=>hb.same (hlt x hx)) hs
 have hres:∀(b:Nat) (sp:Nat→Bool) (hd:Bool),DataW.TrodAll enc P W' b sp hd f.resultTypes.toList ((Value.bool true).resultList f.resultTypes.size) (s.fn H (ds++[])).results []:=by
  intro b sp hd
  rw[hfn,hrt]
  exact trodAll_mk1 (shut_bool hbt _)
 have hvars:∀sp:Nat→Bool,DataW.TrodVars enc P W' sp s.vars (s.fn H (ds++[])).vars []:=by
  intro sp
  rw[hfn,hv]
  rfl
 refine⟨ds,[],before,[],before,[],hW',hres _ _ _,by rw[hfn];exact hargs _ hold,hvars _,World.keptBut_mono (fun x hx=>⟨hx,Or.inr (by simpa using hx)⟩) (hb.frame (·∈before)),fun _=> ?_⟩
 have hres2:=hres 0 (fun _=>true) true
 have hvars2:=hvars (fun _=>true)
 rw[hfn] at hres2 hvars2
 refine⟨ok_one hrt rfl (okWide_bool_mk hbt _),_,_,([]++before)++[],⟨[]++before,[],trodAll_append (hargs _ (fun _ _=>rfl)) hres2,hvars2,rfl,?_,?_⟩,?_⟩
 ·intro b off hp
  have hp':MemPlace.cell b off∈before:=by simpa using hp
  rw[hb.frozen (p:=⟨b,off,none⟩) (hlt _ hp')]
  exact hz b off (by simpa using hp)
 ·intro ha
  have:=hn ha
  simpa using this
 ·intro x hx _
  simpa using hx
end
theorem Zet:Tryz.prog.cellsOf 26=2:=by kernel_rfl
theorem ZnM{k:Int}(h:(Lit.int .i64 k).wf=true): -9223372036854775808≤k∧k≤9223372036854775807:=by
 simp[Lit.wf] at h
 have e1:IntKind.i64.min= -9223372036854775808:=rfl
 have e2:IntKind.i64.max=9223372036854775807:=rfl
 omega
theorem ZiB{α:Type}{P:Nat→α→Prop}:∀n,(∀i,i<n→∃r,P i r)→∃xs:List α,xs.length=n∧∀i r,xs[i]?=some r→P i r:=by
 intro n
 induction n with
 |zero=>intro _;exact⟨[],rfl,fun i r h=>by simp at h⟩
 |succ n ih=>
  intro h
  obtain⟨xs,hl,hx⟩:=ih (fun i hi=>h i (by omega))
  obtain⟨r,hr⟩:=h n (by omega)
  refine⟨xs++[r],by simp[hl],fun i r' hi=> ?_⟩
  by_cases hlt:i<xs.length
  ·rw[List.getElem?_append_left hlt] at hi;exact hx i r' hi
  ·rw[List.getElem?_append_right (by omega)] at hi
   have hlen:=(List.getElem?_eq_some_iff.1 hi).1
   simp at hlen
   have e:i=n:=by omega
   subst e
   rw[show i-xs.length=0 by omega] at hi
   simp at hi
   subst hi;exact hr
theorem ZhO:Tryz.prog.cellsOf 54=7:=by kernel_rfl
theorem Zlk:Tryz.prog.cellsOf 28=11:=by kernel_rfl
theorem ZfB:Tryz.prog.cellsOf 23=1:=by kernel_rfl
theorem ZdT:Tryz.prog.cellsOf 24=1:=by kernel_rfl
theorem Zdc:Tryz.prog.cellsOf 9=1:=by kernel_rfl
theorem ZjT:Tryz.prog.cellsOf 4=1:=by kernel_rfl
theorem Zcg(s:ByteArray):Value.string s=S s.data.toList:=by simp[S]
theorem Zdu{s:ByteArray}(h:s.size≤maxLen):s.data.toList.length≤maxLen:=by rw[Array.length_toList];exact h
theorem ZjU{H:Type}{enc:TypeId×Value→H}{W:World}{base:Nat}{v:Value}{d:DataW H}{p:List MemPlace}(hv:Value.okWide Tryz.prog W .any base 22 v)(h:DataW.Trod enc Tryz.prog W 0 (fun _=>true) true 22 v d p):
 ∃A n c xs,v=.slice A n c∧n≤maxLen∧Lots W W.heap.size A n xs∧((A=none∧c=0)∨∃a,A=some a)∧∀y∈xs,Lot.I y:=by
 obtain⟨a0,len,cap,rfl⟩:=okWide_slice Tryz.underlying22 hv
 obtain⟨fuel,hf⟩:=h
 rcases open_slice Tryz.underlying22 hf with ⟨hcs,hx⟩|⟨a,len',cap',m,n,D,Pl,hcs,_,hl,hm,hmm,hx,hi⟩
 ·simp[Value.cells] at hcs
  obtain⟨rfl,rfl,rfl⟩:=hcs
  exact⟨none,0,0,[],rfl,Nat.zero_le _,Sl.nil,.inl ⟨rfl,rfl⟩,fun y hy=>(by cases hy)⟩
 ·simp[Value.cells] at hcs
  obtain⟨rfl,rfl,rfl⟩:=hcs
  simp only[if_true] at hmm
  subst hmm
  obtain⟨b,off,spot⟩:=a
  rw[ZhO] at hi
  have hspot:0<len→spot=none:=by
   intro h0
   obtain⟨cs',hc,_⟩:=hi 0 (by omega)
   obtain⟨_,hcl,hat⟩:=World.cells?_some hc
   have hc0:=hat 0 (by omega)
   rw[List.getElem?_eq_getElem (by omega)] at hc0
   simpa[Addr.add] using World.cell?_spot hc0
  have key:∀i,i<len→∃r:Lot,b<W.heap.size∧spot=none∧r.I∧∀j u,(L7 r)[j]?=some u→W.cell? ⟨b,off+i*7+j,none⟩=some u:=by
   intro i hil
   obtain⟨cs',hc,ht'⟩:=hi i (by omega)
   obtain⟨ys,n',hn',hy,hlen,hyl,hfl⟩:=DataW.trod_struct Tryz.underlying54 ht'
   obtain⟨_,hcl,hat⟩:=World.cells?_some hc
   have hone:∀j (hj:j<cs'.length),(cs'.drop j).take 1=[cs'[j]]:=fun j hj=>by rw[List.drop_eq_getElem_cons hj];rfl
   rw[ZhO] at hlen
   have g0:DataW.trod enc Tryz.prog W 0 (fun _=>true) true n' 9 ((cs'.drop 0).take (Tryz.prog.cellsOf 9))=ys[0]?:=hfl 0 _ rfl
   have g1:DataW.trod enc Tryz.prog W 0 (fun _=>true) true n' 9 ((cs'.drop 1).take (Tryz.prog.cellsOf 9))=ys[1]?:=hfl 1 _ rfl
   have g2:DataW.trod enc Tryz.prog W 0 (fun _=>true) true n' 23 ((cs'.drop 2).take (Tryz.prog.cellsOf 23))=ys[2]?:=hfl 2 _ rfl
   have g3:DataW.trod enc Tryz.prog W 0 (fun _=>true) true n' 23 ((cs'.drop 3).take (Tryz.prog.cellsOf 23))=ys[3]?:=hfl 3 _ rfl
   have g4:DataW.trod enc Tryz.prog W 0 (fun _=>true) true n' 24 ((cs'.drop 4).take (Tryz.prog.cellsOf 24))=ys[4]?:=hfl 4 _ rfl
   have g5:DataW.trod enc Tryz.prog W 0 (fun _=>true) true n' 24 ((cs'.drop 5).take (Tryz.prog.cellsOf 24))=ys[5]?:=hfl 5 _ rfl
   have g6:DataW.trod enc Tryz.prog W 0 (fun _=>true) true n' 24 ((cs'.drop 6).take (Tryz.prog.cellsOf 24))=ys[6]?:=hfl 6 _ rfl
   rw[Zdc,hone _ (by omega),List.getElem?_eq_getElem (by rw[hyl];decide)] at g0
   rw[Zdc,hone _ (by omega),List.getElem?_eq_getElem (by rw[hyl];decide)] at g1
   rw[ZfB,hone _ (by omega),List.getElem?_eq_getElem (by rw[hyl];decide)] at g2
   rw[ZfB,hone _ (by omega),List.getElem?_eq_getElem (by rw[hyl];decide)] at g3
   rw[ZdT,hone _ (by omega),List.getElem?_eq_getElem (by rw[hyl];decide)] at g4
   rw[ZdT,hone _ (by omega),List.getElem?_eq_getElem (by rw[hyl];decide)] at g5
   rw[ZdT,hone _ (by omega),List.getElem?_eq_getElem (by rw[hyl];decide)] at g6
   obtain⟨s0,e0,_,l0⟩:=DataW.trod_string Tryz.underlying9 g0
   obtain⟨s1,e1,_,l1⟩:=DataW.trod_string Tryz.underlying9 g1
   obtain⟨k2,e2,_,l2⟩:=DataW.trod_int Tryz.underlying23 g2
   obtain⟨k3,e3,_,l3⟩:=DataW.trod_int Tryz.underlying23 g3
   obtain⟨s4,e4,_,l4⟩:=DataW.trod_string Tryz.underlying24 g4
   obtain⟨s5,e5,_,l5⟩:=DataW.trod_string Tryz.underlying24 g5
   obtain⟨s6,e6,_,l6⟩:=DataW.trod_string Tryz.underlying24 g6
   simp only[List.cons.injEq,and_true] at e0 e1 e2 e3 e4 e5 e6
   have hc0:=hat 0 (by omega)
   rw[List.getElem?_eq_getElem (by omega),e0] at hc0
   have hsp:=hspot (by omega)
   subst hsp
   rw[Addr.add_lit,Addr.add_lit] at hc0
   have hbl:b<W.heap.size:=by
    by_cases hh:b<W.heap.size
    ·exact hh
    ·have hnone:W.heap[b]?=none:=Array.getElem?_eq_none (by omega)
     simp[World.cell?,hnone] at hc0
   refine⟨⟨s0.data.toList,s1.data.toList,k2,k3,s4.data.toList,s5.data.toList,s6.data.toList⟩,hbl,rfl,⟨ZnM l2,ZnM l3⟩,fun j u hu=> ?_⟩
   have hj:j<7:=by have:=(List.getElem?_eq_some_iff.1 hu).1;rwa [Zah] at this
   have hcj:=hat j (by omega)
   rw[List.getElem?_eq_getElem (by omega)] at hcj
   have hu':u=cs'[j]'(by omega):=by
    match j,hj,hu with
    |0,_,hu=>rw[e0,Zcg];exact(Option.some.inj hu).symm
    |1,_,hu=>rw[e1,Zcg];exact(Option.some.inj hu).symm
    |2,_,hu=>rw[e2];exact(Option.some.inj hu).symm
    |3,_,hu=>rw[e3];exact(Option.some.inj hu).symm
    |4,_,hu=>rw[e4,Zcg];exact(Option.some.inj hu).symm
    |5,_,hu=>rw[e5,Zcg];exact(Option.some.inj hu).symm
    |6,_,hu=>rw[e6,Zcg];exact(Option.some.inj hu).symm
   rw[Addr.add_lit,Addr.add_lit] at hcj
   rw[hu']
   exact hcj
  obtain⟨xs,hxl,hxp⟩:=ZiB len key
  refine⟨_,len,_,xs,rfl,by omega,⟨hxl.symm,fun hn=> ?_⟩,?_,fun y hy=> ?_⟩
  ·obtain⟨r,hb,hs,_⟩:=key 0 hn
   subst hs
   exact⟨b,off,rfl,hb,fun i x hix j u hju=>(hxp i x hix).2.2.2 j u hju⟩
  ·exact .inr ⟨_,rfl⟩
  ·obtain⟨i,hi'⟩:=List.getElem?_of_mem hy
   exact(hxp i y hi').2.2.1
theorem Zdv{H:Type}{enc:TypeId×Value→H}{W:World}{n:Nat}{x y:Value}{z:DataW H×List MemPlace}(h:DataW.trod enc Tryz.prog W 0 (fun _=>true) true n 26 [x,y]=some z):
 ∃f:Fr,x=S f.n∧y=S f.d∧f.n.length≤maxLen∧f.d.length≤maxLen:=by
 obtain⟨ys,n',hn',hy,hlen,hyl,hfl⟩:=DataW.trod_struct Tryz.underlying26 h
 have g0:DataW.trod enc Tryz.prog W 0 (fun _=>true) true n' 24 (([x,y].drop 0).take (Tryz.prog.cellsOf 24))=ys[0]?:=hfl 0 _ rfl
 have g1:DataW.trod enc Tryz.prog W 0 (fun _=>true) true n' 24 (([x,y].drop 1).take (Tryz.prog.cellsOf 24))=ys[1]?:=hfl 1 _ rfl
 rw[ZdT,List.getElem?_eq_getElem (by rw[hyl];decide)] at g0 g1
 obtain⟨s0,e0,_,l0⟩:=DataW.trod_string Tryz.underlying24 g0
 obtain⟨s1,e1,_,l1⟩:=DataW.trod_string Tryz.underlying24 g1
 simp only[List.drop_zero,List.take_succ_cons,List.take_zero,List.drop_succ_cons,List.cons.injEq,and_true] at e0 e1
 exact⟨⟨s0.data.toList,s1.data.toList⟩,by rw[e0];exact Zcg s0,by rw[e1];exact Zcg s1,Zdu l0,Zdu l1⟩
theorem Zll{H:Type}{enc:TypeId×Value→H}{W:World}{base:Nat}{v:Value}{d:DataW H}{p:List MemPlace}(hv:Value.okWide Tryz.prog W .any base 28 v)(h:DataW.Trod enc Tryz.prog W 0 (fun _=>true) true 28 v d p):
 ∃m:Mp,v=MpV m∧m.Max∧ -9223372036854775808≤m.day∧m.day≤9223372036854775807:=by
 obtain⟨cs,rfl,hsz⟩:=okWide_struct Tryz.underlying28 hv
 rw[Zlk] at hsz
 obtain⟨fuel,hf⟩:=h
 obtain⟨ys,n',hn',hy,hlen,hyl,hfl⟩:=DataW.trod_struct Tryz.underlying28 hf
 obtain⟨c,hc⟩:∃c:List Value,c=cs.toList:=⟨_,rfl⟩
 have hcl:c.length=11:=by rw[hc,Array.length_toList];exact hsz
 have hcv:(Value.agg cs).cells.toList=c:=by rw[hc];rfl
 rw[hcv] at hfl hlen
 have hone:∀j (hj:j<c.length),(c.drop j).take 1=[c[j]]:=fun j hj=>by rw[List.drop_eq_getElem_cons hj];rfl
 have htwo:∀j (hj:j+1<c.length),(c.drop j).take 2=[c[j],c[j+1]]:=fun j hj=>by rw[List.drop_eq_getElem_cons (by omega),List.drop_eq_getElem_cons hj];rfl
 have g0:DataW.trod enc Tryz.prog W 0 (fun _=>true) true n' 9 ((c.drop 0).take (Tryz.prog.cellsOf 9))=ys[0]?:=hfl 0 _ rfl
 have g1:DataW.trod enc Tryz.prog W 0 (fun _=>true) true n' 23 ((c.drop 1).take (Tryz.prog.cellsOf 23))=ys[1]?:=hfl 1 _ rfl
 have g2:DataW.trod enc Tryz.prog W 0 (fun _=>true) true n' 9 ((c.drop 2).take (Tryz.prog.cellsOf 9))=ys[2]?:=hfl 2 _ rfl
 have g3:DataW.trod enc Tryz.prog W 0 (fun _=>true) true n' 9 ((c.drop 3).take (Tryz.prog.cellsOf 9))=ys[3]?:=hfl 3 _ rfl
 have g4:DataW.trod enc Tryz.prog W 0 (fun _=>true) true n' 26 ((c.drop 4).take (Tryz.prog.cellsOf 26))=ys[4]?:=hfl 4 _ rfl
 have g5:DataW.trod enc Tryz.prog W 0 (fun _=>true) true n' 26 ((c.drop 6).take (Tryz.prog.cellsOf 26))=ys[5]?:=hfl 5 _ rfl
 have g6:DataW.trod enc Tryz.prog W 0 (fun _=>true) true n' 26 ((c.drop 8).take (Tryz.prog.cellsOf 26))=ys[6]?:=hfl 6 _ rfl
 have g7:DataW.trod enc Tryz.prog W 0 (fun _=>true) true n' 4 ((c.drop 10).take (Tryz.prog.cellsOf 4))=ys[7]?:=hfl 7 _ rfl
 rw[Zdc,hone _ (by omega),List.getElem?_eq_getElem (by rw[hyl];decide)] at g0
 rw[ZfB,hone _ (by omega),List.getElem?_eq_getElem (by rw[hyl];decide)] at g1
 rw[Zdc,hone _ (by omega),List.getElem?_eq_getElem (by rw[hyl];decide)] at g2
 rw[Zdc,hone _ (by omega),List.getElem?_eq_getElem (by rw[hyl];decide)] at g3
 rw[Zet,htwo _ (by omega),List.getElem?_eq_getElem (by rw[hyl];decide)] at g4
 rw[Zet,htwo _ (by omega),List.getElem?_eq_getElem (by rw[hyl];decide)] at g5
 rw[Zet,htwo _ (by omega),List.getElem?_eq_getElem (by rw[hyl];decide)] at g6
 rw[ZjT,hone _ (by omega),List.getElem?_eq_getElem (by rw[hyl];decide)] at g7
 obtain⟨s0,e0,_,l0⟩:=DataW.trod_string Tryz.underlying9 g0
 obtain⟨k1,e1,_,l1⟩:=DataW.trod_int Tryz.underlying23 g1
 obtain⟨s2,e2,_,l2⟩:=DataW.trod_string Tryz.underlying9 g2
 obtain⟨s3,e3,_,l3⟩:=DataW.trod_string Tryz.underlying9 g3
 obtain⟨f4,a4,b4,u4,w4⟩:=Zdv g4
 obtain⟨f5,a5,b5,u5,w5⟩:=Zdv g5
 obtain⟨f6,a6,b6,u6,w6⟩:=Zdv g6
 obtain⟨b7,e7,_⟩:=DataW.trod_bool Tryz.underlying4 g7
 simp only[List.cons.injEq,and_true] at e0 e1 e2 e3 e7
 have hcs:c=[.string s0,.int .i64 k1,.string s2,.string s3,S f4.n,S f4.d,S f5.n,S f5.d,S f6.n,S f6.d,.bool b7]:=by
  refine List.ext_getElem (by rw[hcl];rfl) fun j h1 h2=> ?_
  have hj:j<11:=by omega
  match j,hj with
  |0,_=>exact e0
  |1,_=>exact e1
  |2,_=>exact e2
  |3,_=>exact e3
  |4,_=>exact a4
  |5,_=>exact b4
  |6,_=>exact a5
  |7,_=>exact b5
  |8,_=>exact a6
  |9,_=>exact b6
  |10,_=>exact e7
 refine⟨⟨s0.data.toList,k1,s2.data.toList,s3.data.toList,f4,f5,f6,b7⟩,?_,⟨Zdu l0,Zdu l2,Zdu l3,u4,w4,u5,w5,u6,w6⟩,(ZnM l1).1,(ZnM l1).2⟩
 have:cs=c.toArray:=by rw[hc]
 rw[this,hcs,Zcg,Zcg,Zcg]
 rfl
theorem Ze4{P:Program}{W:World}{name dn:String}{d:DataW Unit}{g:Nat}{t:TypeId}{ms:Array (String×TypeId)}(hg:P.globalNamed name=some g)(hty:(P.globals[g]?).map (·.type)=some t)(hi:P.underlying t=some (.interface ms))
 (h:laidMet P [(name,.iface dn d)] W):∃u v,W.var? P name=some #[.iface u v]:=by
 obtain⟨ps,⟨g',t',cs,fuel,p,q,hg',ht',hvar,hd,_,_⟩,_⟩:=h
 obtain rfl:=Option.some.inj (hg.symm.trans hg')
 obtain rfl:=Option.some.inj (hty.symm.trans ht')
 obtain⟨f',u,v,hcs,_,_⟩:=iface_of_trod hi hd
 refine⟨u,v,?_⟩
 rw[hvar]
 congr 1
 exact Array.ext' hcs
noncomputable def laidWorld(os:Os):World:=
 {World.doorLaid Tryz.prog 400 os with heap:=(World.doorLaid Tryz.prog 400 os).heap.modify 4 fun
  | .cells _ t frozen=>.cells (Pinned.utf8FirstZ.map fun(n:Nat)=>Value.int .u8 (n:Int)).toArray t frozen
  |o=>o}
theorem Zlm(os:Os)(args:Array Value):laidMet Tryz.prog Rows.lotmapMapsRow.laid ((laidWorld os).forCall (fun _ _=>0) ⟨#[],args,[]⟩).memory:=
 laidMet_of_run' 8 (by kernel_rfl) (by kernel_rfl)
theorem Zg2{W:World}(h:laidMetH Tryz.prog Rows.lotmapMapsRow.laid W):Env W:=by
 have h0:laidMet Tryz.prog Rows.lotmapMapsRow.laid W:=h
 have h1:=h0.filter (fun x=>x.1== "internal/strconv.uint64pow10")
 have e:Rows.lotmapMapsRow.laid.filter (fun x=>x.1== "internal/strconv.uint64pow10")=[("internal/strconv.uint64pow10",Lib.tabData .u64 Lib.pow10Tab)]:=by kernel_rfl
 rw[e] at h1
 have h2:=h0.filter (fun x=>x.1== "strconv.ErrSyntax")
 have e2:Rows.lotmapMapsRow.laid.filter (fun x=>x.1== "strconv.ErrSyntax")=[("strconv.ErrSyntax",.iface "*errors.errorString" (.ptr (.agg [.lit (.string [105,110,118,97,108,105,100,32,115,121,110,116,97,120])])))]:=by kernel_rfl
 rw[e2] at h2
 have h3:=h0.filter (fun x=>x.1== "strconv.ErrRange")
 have e3:Rows.lotmapMapsRow.laid.filter (fun x=>x.1== "strconv.ErrRange")=[("strconv.ErrRange",.iface "*errors.errorString" (.ptr (.agg [.lit (.string [118,97,108,117,101,32,111,117,116,32,111,102,32,114,97,110,103,101])])))]:=by kernel_rfl
 rw[e3] at h3
 refine⟨?_,?_,?_⟩
 ·exact Lib.tabIs_of_head (g:=2) (t:=256) (e:=166) (n:=20) (by kernel_rfl) (by kernel_rfl) Tryz.underlying256 Tryz.underlying166 (by kernel_rfl) (by kernel_rfl) h1
 ·exact Ze4 (g:=0) (t:=168) (by kernel_rfl) (by kernel_rfl) Tryz.underlying168 h2
 ·exact Ze4 (g:=1) (t:=168) (by kernel_rfl) (by kernel_rfl) Tryz.underlying168 h3
end
section
open Go.ChangeShapes Go.WideShapes Go.ChangeAt Go.RowKit Go.Deep
theorem Zln{H:Type}{enc:TypeId×Value→H}{W:World}{base:Nat}{v:Value}{d:DataW H}{p:List MemPlace}(hv:Value.okWide Tryz.prog W .any base 24 v)(h:DataW.Trod enc Tryz.prog W 0 (fun _=>true) true 24 v d p):
 ∃q:List UInt8,v=S q∧q.length≤maxLen:=by
 obtain⟨s,rfl⟩:=okWide_string Tryz.underlying24 hv
 obtain⟨fuel,hf⟩:=h
 obtain⟨s',e,_,l⟩:=DataW.trod_string Tryz.underlying24 hf
 simp[Value.cells] at e
 subst e
 exact⟨s.data.toList,Zcg s,Zdu l⟩
theorem Zgj{H:Type}{enc:TypeId×Value→H}{W:World}{v:Value}{d:DataW H}{p:List MemPlace}{A:Option Addr}{n c:Nat}(hv:v=.slice A n c)(h:DataW.Trod enc Tryz.prog W 0 (fun _=>true) true 22 v d p):n≤c:=by
 subst hv
 obtain⟨fuel,hf⟩:=h
 rcases open_slice Tryz.underlying22 hf with ⟨hcs,hx⟩|⟨a,len',cap',m,n,D,Pl,hcs,_,hl,hm,hmm,hx,hi⟩
 ·simp[Value.cells] at hcs
  omega
 ·simp[Value.cells] at hcs
  obtain⟨rfl,rfl,rfl⟩:=hcs
  exact hl
end
end Go.Proofs.YtpnncoinlopndaaGreatDoor
