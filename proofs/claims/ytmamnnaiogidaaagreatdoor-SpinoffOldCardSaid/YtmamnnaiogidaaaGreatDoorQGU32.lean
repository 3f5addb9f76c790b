/- Gv. -/
import Derived.Test.YtmamnnaiogidaaaGreatDoorQGU42
import Derived.Test.YtmamnnaiogidaaaGreatDoorQGU24
namespace Go.Proofs.YtmamnnaiogidaaaGreatDoor
section
open Go.RowKit Go.Shelf
def G10(g:Gain):List Value:=[S g.cause,S g.lot,S g.inst,.int .i64 g.acq,.int .i64 g.closed,S g.q,S g.proceeds,S g.cost,S g.deferred,S g.replaced]
theorem ZcX(g:Gain):(G10 g).length=10:=rfl
theorem ZlT(g:Gain):∀u∈G10 g,u.oneCell'=true:=by
 intro u hu;simp only[G10,List.mem_cons,List.mem_nil_iff,or_false] at hu
 rcases hu with rfl|rfl|rfl|rfl|rfl|rfl|rfl|rfl|rfl|rfl<;>rfl
def S6(s:Stp):List Value:=[S s.cause,S s.src,S s.dst,S s.q,S s.made,S s.cost]
theorem ZlU(s:Stp):(S6 s).length=6:=rfl
theorem Zng(s:Stp):∀u∈S6 s,u.oneCell'=true:=by
 intro u hu;simp only[S6,List.mem_cons,List.mem_nil_iff,or_false] at hu
 rcases hu with rfl|rfl|rfl|rfl|rfl|rfl<;>rfl
abbrev Gns(w:World)(B:Nat)(A:Option Addr)(n:Nat)(xs:List Gain):Prop:=Sl G10 10 w B A n xs
abbrev Sts(w:World)(B:Nat)(A:Option Addr)(n:Nat)(xs:List Stp):Prop:=Sl S6 6 w B A n xs
theorem ZjD:JO Tryz.prog 33 47 10 144:=Jd Tryz.underlying33 (by kernel_rfl) (by decide) (by decide)
theorem ZjE:JO Tryz.prog 34 173 6 96:=Jd Tryz.underlying34 (by kernel_rfl) (by decide) (by decide)
theorem Sl.gain{w:World}{B:Nat}{A:Option Addr}{n:Nat}{xs:List Gain}{i:Nat}(h:Gns w B A n xs)(hi:i<n):
 ∃b off x,A=some ⟨b,off,none⟩/\b<B/\xs[i]?=some x/\w.cell? ⟨b,off+i*10,none⟩=some (.string ⟨x.cause.toArray⟩)/\w.cell? ⟨b,off+i*10+1,none⟩=some (.string ⟨x.lot.toArray⟩)/\w.cell? ⟨b,off+i*10+2,none⟩=some (.string ⟨x.inst.toArray⟩)/\
  w.cell? ⟨b,off+i*10+3,none⟩=some (.int .i64 x.acq)/\w.cell? ⟨b,off+i*10+4,none⟩=some (.int .i64 x.closed)/\w.cell? ⟨b,off+i*10+5,none⟩=some (.string ⟨x.q.toArray⟩)/\w.cell? ⟨b,off+i*10+6,none⟩=some (.string ⟨x.proceeds.toArray⟩)/\
  w.cell? ⟨b,off+i*10+7,none⟩=some (.string ⟨x.cost.toArray⟩)/\w.cell? ⟨b,off+i*10+8,none⟩=some (.string ⟨x.deferred.toArray⟩)/\w.cell? ⟨b,off+i*10+9,none⟩=some (.string ⟨x.replaced.toArray⟩):=by
 obtain⟨b,off,x,hA,hb,hx,hc⟩:=h.at_ hi
 exact⟨b,off,x,hA,hb,hx,hc 0 _ rfl,hc 1 _ rfl,hc 2 _ rfl,hc 3 _ rfl,hc 4 _ rfl,hc 5 _ rfl,hc 6 _ rfl,hc 7 _ rfl,hc 8 _ rfl,hc 9 _ rfl⟩
theorem Sl.step{w:World}{B:Nat}{A:Option Addr}{n:Nat}{xs:List Stp}{i:Nat}(h:Sts w B A n xs)(hi:i<n):
 ∃b off x,A=some ⟨b,off,none⟩/\b<B/\xs[i]?=some x/\w.cell? ⟨b,off+i*6,none⟩=some (.string ⟨x.cause.toArray⟩)/\w.cell? ⟨b,off+i*6+1,none⟩=some (.string ⟨x.src.toArray⟩)/\w.cell? ⟨b,off+i*6+2,none⟩=some (.string ⟨x.dst.toArray⟩)/\
  w.cell? ⟨b,off+i*6+3,none⟩=some (.string ⟨x.q.toArray⟩)/\w.cell? ⟨b,off+i*6+4,none⟩=some (.string ⟨x.made.toArray⟩)/\w.cell? ⟨b,off+i*6+5,none⟩=some (.string ⟨x.cost.toArray⟩):=by
 obtain⟨b,off,x,hA,hb,hx,hc⟩:=h.at_ hi
 exact⟨b,off,x,hA,hb,hx,hc 0 _ rfl,hc 1 _ rfl,hc 2 _ rfl,hc 3 _ rfl,hc 4 _ rfl,hc 5 _ rfl⟩
theorem ZgH(m:Mp)(x:Plan)(old:List Lot)(i:Nat):QZ m x old (i+1)=QZ m x old i++(match old[i]? with
 |some y=>if x.p.getD i 0=0/\x.f.getD i 0=0 then[] else[{cause:=m.cause,lot:=y.id,inst:=m.other,acq:=y.acq,closed:=m.day,q:=[],proceeds:=Qa (x.p.getD i 0),cost:=Qa (x.f.getD i 0),deferred:=[],replaced:=[]}]
 |none=>[]):=by
 unfold QZ;rw[List.range_succ,List.filterMap_append]
 congr 1
 simp only[List.filterMap_cons,List.filterMap_nil]
 cases old[i]? with
 |none=>rfl
 |some y=>
  by_cases h:x.p.getD i 0=0/\x.f.getD i 0=0
  ·simp only[if_pos h]
  ·simp only[if_neg h]
theorem ZdT(m:Mp)(x:Plan)(old:List Lot)(i:Nat):(QZ m x old i).length<=i:=by
 unfold QZ;exact Nat.le_trans (List.length_filterMap_le _ _) (by rw[List.length_range];exact Nat.le_refl _)
theorem ZgI(m:Mp)(x:Plan)(k:Nat)(y:Lot):(JC m x k y).length<=2:=by
 have h:∀s,(Yy s).length<=1:=fun s=>by unfold Yy;split<;>simp
 unfold JC;simp only
 split
 ·exact Nat.le_trans (h _) (by omega)
 ·rw[List.length_append];have:=h {cause:=m.cause,src:=y.id,dst:=Xi m.cause (if x.n.getD k 0=0 then 1 else Xc x.n k+1),q:=if m.keep=true then[] else y.q,made:=Qa (x.n.getD k 0),cost:=Qa (x.mv k)}
  have:=h {cause:=m.cause,src:=y.id,dst:=[],q:=[],made:=[],cost:=Qa (x.f.getD k 0)}
  omega
def toR(m:Mp)(x:Plan)(N i:Nat):List (List UInt8):=(List.range N).map fun j=>if x.n.getD j 0=0 then(if j<i/\x.parts≠0 then Xi m.cause 1 else[]) else Xi m.cause (Xc x.n j+1)
def toP(N:Nat)(l:List (Nat×Lot)):List (List UInt8):=l.foldl (fun a z=>a.set z.1 z.2.id) (List.replicate N [])
theorem ZgJ(N:Nat)(l:List (Nat×Lot))(z:Nat×Lot):toP N (l++[z])=(toP N l).set z.1 z.2.id:=by unfold toP;rw[List.foldl_append];rfl
theorem Zix(N:Nat)(l:List (Nat×Lot)):(toP N l).length=N:=by
 unfold toP
 have h:∀(l:List (Nat×Lot)) (a:List (List UInt8)),(l.foldl (fun a z=>a.set z.1 z.2.id) a).length=a.length:=by
  intro l
  induction l with
  |nil=>intro a;rfl
  |cons z l ih=>intro a;rw[List.foldl_cons,ih,List.length_set]
 rw[h,List.length_replicate]
theorem ZjF(m:Mp)(x:Plan)(old:List Lot)(i:Nat)(hi:i<=old.length):
 toP old.length (QM m x old i)=(List.range old.length).map fun j=>if j<i/\x.n.getD j 0≠0 then Xi m.cause (Xc x.n j+1) else[]:=by
 induction i with
 |zero=>
  refine List.ext_getElem (by simp[Zix]) fun j h1 h2=> ?_
  simp[toP,QM]
 |succ i ih=>
  have hlt:i<old.length:=by omega
  rw[XR,List.getElem?_eq_getElem hlt];simp only
  by_cases h0:x.n.getD i 0=0
  ·rw[if_pos h0,List.append_nil,ih (by omega)];refine List.map_congr_left fun j _=> ?_
   by_cases hj:j<i
   ·simp only[hj,show j<i+1 by omega]
   ·by_cases hji:j=i
    ·subst hji;rw[if_neg (fun h=>by omega),if_neg (fun h=>h.2 h0)]
    ·simp[hj,show ¬j<i+1 by omega]
  ·rw[if_neg h0,ZgJ,ih (by omega)];refine List.ext_getElem (by simp) fun j h1 h2=> ?_
   rw[List.getElem_set];simp only[List.getElem_map,List.getElem_range]
   by_cases hji:i=j
   ·subst hji;rw[if_pos rfl,if_pos ⟨by omega,h0⟩];rfl
   ·rw[if_neg hji]
    by_cases hj:j<i
    ·simp only[hj,show j<i+1 by omega]
    ·simp only[hj,show ¬j<i+1 by omega]
theorem Znh(m:Mp)(x:Plan)(old:List Lot):toP old.length (QE m x old)=toR m x old.length 0:=by
 unfold QE toR;rw[ZjF m x old _ (Nat.le_refl _)];refine List.map_congr_left fun j hj=> ?_
 have hj:=List.mem_range.1 hj
 by_cases h0:x.n.getD j 0=0<;>simp[hj]
theorem Ziy(m:Mp)(x:Plan)(N i j:Nat)(hj:j<N):(toR m x N i)[j]?=some (if x.n.getD j 0=0 then(if j<i/\x.parts≠0 then Xi m.cause 1 else[]) else Xi m.cause (Xc x.n j+1)):=by
 unfold toR;rw[List.getElem?_map,List.getElem?_range hj];rfl
theorem ZgK(m:Mp)(x:Plan)(N i:Nat)(h:x.n.getD i 0≠0\/x.parts=0):toR m x N (i+1)=toR m x N i:=by
 unfold toR;refine List.map_congr_left fun j _=> ?_
 by_cases hji:j=i
 ·subst hji
  rcases h with h|h
  ·rw[if_neg h,if_neg h]
  ·simp[h]
 ·by_cases hj:j<i
  ·simp only[hj,show j<i+1 by omega]
  ·simp only[hj,show ¬j<i+1 by omega]
theorem Zni(m:Mp)(x:Plan)(N i:Nat)(_hi:i<N)(h0:x.n.getD i 0=0)(hp:x.parts≠0):(toR m x N i).set i (Xi m.cause 1)=toR m x N (i+1):=by
 unfold toR;refine List.ext_getElem (by simp) fun j h1 h2=> ?_
 rw[List.getElem_set];simp only[List.getElem_map,List.getElem_range]
 by_cases hji:i=j
 ·subst hji;rw[if_pos rfl,if_pos h0,if_pos ⟨by omega,hp⟩]
 ·rw[if_neg hji]
  by_cases hj:j<i
  ·simp only[hj,show j<i+1 by omega]
  ·simp only[hj,show ¬j<i+1 by omega]
def VC(l:List (List UInt8)):Array Value:=(l.map fun s=>Value.string ⟨s.toArray⟩).toArray
theorem ZbJ(l:List (List UInt8))(j:Nat)(s:List UInt8)(h:l[j]?=some s):(VC l)[j]?=some (.string ⟨s.toArray⟩):=by unfold VC;simp[h]
theorem ZgL(l:List (List UInt8))(j:Nat)(s:List UInt8):(VC l).setIfInBounds j (.string ⟨s.toArray⟩)=VC (l.set j s):=by unfold VC;simp[List.map_set]
theorem ZjG(N:Nat):Qj [] N 0=VC (toP N []):=by
 apply Array.ext_getElem?
 intro j;unfold Qj VC toP
 rcases Nat.lt_or_ge j N with h|h
 ·simp[h]
 ·simp[h]
end
end Go.Proofs.YtmamnnaiogidaaaGreatDoor
