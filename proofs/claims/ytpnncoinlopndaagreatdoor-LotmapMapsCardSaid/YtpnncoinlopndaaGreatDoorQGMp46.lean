/- . -/
import Derived.Test.YtpnncoinlopndaaGreatDoorQGMp29
import Derived.Test.YtpnncoinlopndaaGreatDoorQGMp10
set_option maxRecDepth 100000
set_option maxHeartbeats 4000000
namespace Go.Proofs.YtpnncoinlopndaaGreatDoor
open Go.Lib renaming hid→jq
open Go.RowKit Go.Shelf
section
attribute [local go_sem ↓] Go.wp_at_zero Go.wp_at_succ
def MpV(m:Mp):Value:=.agg (mpA m).toArray
structure Mp.Sz (L:Nat) (m:Mp):Prop where
 cause:m.cause.length<=L
 inst:m.inst.length<=L
 other:m.other.length<=L
 ratio:m.ratio.Sz L
 share:m.share.Sz L
 price:m.price.Sz L
 d1: -9223372036854775808<=m.day
 d2:m.day<=9223372036854775807
theorem Ze8(x y:Rat):decide (Xe x y<=0)=decide (x<=y):=by
 unfold Xe;rw[Bool.eq_iff_iff,decide_eq_true_eq,decide_eq_true_eq]
 by_cases h1:x<y
 ·simp only[if_pos h1];exact⟨fun _=>Rat.le_of_lt h1,fun _=>by decide⟩
 ·rw[if_neg h1]
  by_cases h2:y<x
  ·rw[if_pos h2];exact⟨fun h=>absurd h (by decide),fun h=>absurd h2 (Rat.not_lt.2 h)⟩
  ·rw[if_neg h2];exact⟨fun _=>Rat.not_lt.1 h2,fun _=>by decide⟩
theorem ZbG(x y:Rat):decide (Xe x y<0)=decide (x<y):=by
 unfold Xe
 by_cases h:x<y
 ·simp[h]
 ·rw[if_neg h];simp only[h,decide_false,decide_eq_false_iff_not]
  split<;>decide
theorem Ze9(x y:Rat):decide (0<Xe x y)=decide (y<x):=by
 unfold Xe
 by_cases h:x<y
 ·rw[if_pos h];have:¬y<x:=Rat.not_lt.2 (Rat.le_of_lt h)
  simp[this]
 ·rw[if_neg h]
  by_cases h2:y<x<;>simp[h2]
theorem ZaM(x y:Rat):Xe x y= -1\/Xe x y=0\/Xe x y=1:=by
 unfold Xe
 split
 ·exact .inl rfl
 ·split
  ·exact .inr (.inr rfl)
  ·exact .inr (.inl rfl)
theorem ZmS{f:Fr}(h:f.ok):(f=Qf 1)↔f.rat=1:=⟨fun e=>by rw[e,Qj],fun e=>by rw[h,e]⟩
theorem Zgg(m:Mp):JE m=if(!(QG m.cause&&QG m.inst&&QG m.other))=true then 23 else if(!XP m.day)=true then 13 else if(!(decide m.ratio.ok&&decide m.share.ok&&decide m.price.ok))=true then 1
 else if(decide (m.ratio.rat<=0)||decide (m.share.rat<0)||decide (1<m.share.rat)||decide (m.price.rat<0))=true then 2 else if(m.keep&&(m.other==m.inst))=true then 18 else if(!m.keep&& !(m.share.n==(Qf 1).n&&m.share.d==(Qf 1).d))=true then 9 else 0:=by
 unfold JE
 by_cases hA:(!(QG m.cause&&QG m.inst&&QG m.other))=true
 ·rw[if_pos hA,if_pos hA]
 rw[if_neg hA,if_neg hA]
 by_cases hB:(!XP m.day)=true
 ·rw[if_pos hB,if_pos hB]
 rw[if_neg hB,if_neg hB]
 by_cases h1:m.ratio.ok/\m.share.ok/\m.price.ok
 ·rw[if_neg (not_not_intro h1),if_neg (show ¬(!(decide m.ratio.ok&&decide m.share.ok&&decide m.price.ok))=true by simp[h1.1,h1.2.1,h1.2.2])]
  by_cases h2:m.ratio.rat<=0\/m.share.rat<0\/1<m.share.rat\/m.price.rat<0
  ·rw[if_pos h2,if_pos (show(decide (m.ratio.rat<=0)||decide (m.share.rat<0)||decide (1<m.share.rat)||decide (m.price.rat<0))=true by simp only[Bool.or_eq_true,decide_eq_true_eq,or_assoc];exact h2)]
  ·rw[if_neg h2,if_neg (show ¬(decide (m.ratio.rat<=0)||decide (m.share.rat<0)||decide (1<m.share.rat)||decide (m.price.rat<0))=true by simp only[Bool.or_eq_true,decide_eq_true_eq,or_assoc];exact h2)]
   by_cases h3:m.keep=true/\m.other=m.inst
   ·rw[if_pos h3,if_pos (show(m.keep&&(m.other==m.inst))=true by simp[h3.1,h3.2])]
   ·rw[if_neg h3,if_neg (show ¬(m.keep&&(m.other==m.inst))=true by simpa using h3)]
    have he:(m.share.n==(Qf 1).n&&m.share.d==(Qf 1).d)=decide (m.share.rat=1):=by
     rw[Bool.eq_iff_iff,decide_eq_true_eq,<-ZmS h1.2.1];simp only[Bool.and_eq_true,beq_iff_eq];exact⟨fun h=>Fr.ext_ h.1 h.2,fun h=>by rw[h];exact⟨rfl,rfl⟩⟩
    rw[he]
    by_cases h4:m.keep=false/\m.share.rat≠1
    ·rw[if_pos h4,if_pos (by simp[h4.1,h4.2])]
    ·rw[if_neg h4,if_neg (by simpa using h4)]
 ·rw[if_pos h1,if_pos (show(!(decide m.ratio.ok&&decide m.share.ok&&decide m.price.ok))=true by
   by_cases a1:m.ratio.ok<;>by_cases a2:m.share.ok<;>by_cases a3:m.price.ok<;>simp_all)]
end
section
def G10(g:Gain):List Value:=[S g.cause,S g.lot,S g.inst,.int .i64 g.acq,.int .i64 g.closed,S g.q,S g.proceeds,S g.cost,S g.deferred,S g.replaced]
theorem VU(g:Gain):(G10 g).length=10:=rfl
theorem Zgk(g:Gain):∀u∈G10 g,u.oneCell'=true:=by
 intro u hu;simp only[G10,List.mem_cons,List.mem_nil_iff,or_false] at hu
 rcases hu with rfl|rfl|rfl|rfl|rfl|rfl|rfl|rfl|rfl|rfl<;>rfl
def S6(s:Stp):List Value:=[S s.cause,S s.src,S s.dst,S s.q,S s.made,S s.cost]
theorem Zcb(s:Stp):(S6 s).length=6:=rfl
theorem Zio(s:Stp):∀u∈S6 s,u.oneCell'=true:=by
 intro u hu;simp only[S6,List.mem_cons,List.mem_nil_iff,or_false] at hu
 rcases hu with rfl|rfl|rfl|rfl|rfl|rfl<;>rfl
abbrev Gns(w:World)(B:Nat)(A:Option Addr)(n:Nat)(xs:List Gain):Prop:=Sl G10 10 w B A n xs
abbrev Sts(w:World)(B:Nat)(A:Option Addr)(n:Nat)(xs:List Stp):Prop:=Sl S6 6 w B A n xs
theorem ZeB:Ji Tryz.prog 31 57 10 144:=Vv Tryz.underlying31 (by kernel_rfl) (by decide) (by decide)
theorem ZeC:Ji Tryz.prog 32 80 6 96:=Vv Tryz.underlying32 (by kernel_rfl) (by decide) (by decide)
theorem Sl.gain{w:World}{B:Nat}{A:Option Addr}{n:Nat}{xs:List Gain}{i:Nat}(h:Gns w B A n xs)(hi:i<n):
 ∃b off x,A=some ⟨b,off,none⟩/\b<B/\xs[i]?=some x/\w.cell? ⟨b,off+i*10,none⟩=some (.string ⟨x.cause.toArray⟩)/\w.cell? ⟨b,off+i*10+1,none⟩=some (.string ⟨x.lot.toArray⟩)/\w.cell? ⟨b,off+i*10+2,none⟩=some (.string ⟨x.inst.toArray⟩)/\
  w.cell? ⟨b,off+i*10+3,none⟩=some (.int .i64 x.acq)/\w.cell? ⟨b,off+i*10+4,none⟩=some (.int .i64 x.closed)/\w.cell? ⟨b,off+i*10+5,none⟩=some (.string ⟨x.q.toArray⟩)/\w.cell? ⟨b,off+i*10+6,none⟩=some (.string ⟨x.proceeds.toArray⟩)/\
  w.cell? ⟨b,off+i*10+7,none⟩=some (.string ⟨x.cost.toArray⟩)/\w.cell? ⟨b,off+i*10+8,none⟩=some (.string ⟨x.deferred.toArray⟩)/\w.cell? ⟨b,off+i*10+9,none⟩=some (.string ⟨x.replaced.toArray⟩):=by
 obtain⟨b,off,x,hA,hb,hx,hc⟩:=h.at_ hi
 exact⟨b,off,x,hA,hb,hx,hc 0 _ rfl,hc 1 _ rfl,hc 2 _ rfl,hc 3 _ rfl,hc 4 _ rfl,hc 5 _ rfl,hc 6 _ rfl,hc 7 _ rfl,hc 8 _ rfl,hc 9 _ rfl⟩
theorem Sl.step{w:World}{B:Nat}{A:Option Addr}{n:Nat}{xs:List Stp}{i:Nat}(h:Sts w B A n xs)(hi:i<n):
 ∃b off x,A=some ⟨b,off,none⟩/\b<B/\xs[i]?=some x/\w.cell? ⟨b,off+i*6,none⟩=some (.string ⟨x.cause.toArray⟩)/\w.cell? ⟨b,off+i*6+1,none⟩=some (.string ⟨x.src.toArray⟩)/\w.cell? ⟨b,off+i*6+2,none⟩=some (.string ⟨x.dst.toArray⟩)/\
  w.cell? ⟨b,off+i*6+3,none⟩=some (.string ⟨x.q.toArray⟩)/\w.cell? ⟨b,off+i*6+4,none⟩=some (.string ⟨x.made.toArray⟩)/\w.cell? ⟨b,off+i*6+5,none⟩=some (.string ⟨x.cost.toArray⟩):=by
 obtain⟨b,off,x,hA,hb,hx,hc⟩:=h.at_ hi
 exact⟨b,off,x,hA,hb,hx,hc 0 _ rfl,hc 1 _ rfl,hc 2 _ rfl,hc 3 _ rfl,hc 4 _ rfl,hc 5 _ rfl⟩
theorem ZcB(m:Mp)(x:Plan)(old:List Lot)(i:Nat):QT m x old (i+1)=QT m x old i++(match old[i]? with
 |some y=>if x.p.getD i 0=0/\x.f.getD i 0=0 then[] else[{cause:=m.cause,lot:=y.id,inst:=m.other,acq:=y.acq,closed:=m.day,q:=[],proceeds:=Qa (x.p.getD i 0),cost:=Qa (x.f.getD i 0),deferred:=[],replaced:=[]}]
 |none=>[]):=by
 unfold QT;rw[List.range_succ,List.filterMap_append]
 congr 1
 simp only[List.filterMap_cons,List.filterMap_nil]
 cases old[i]? with
 |none=>rfl
 |some y=>
  by_cases h:x.p.getD i 0=0/\x.f.getD i 0=0
  ·simp only[if_pos h]
  ·simp only[if_neg h]
theorem Za7(m:Mp)(x:Plan)(old:List Lot)(i:Nat):(QT m x old i).length<=i:=by
 unfold QT;exact Nat.le_trans (List.length_filterMap_le _ _) (by rw[List.length_range];exact Nat.le_refl _)
theorem Zdr(m:Mp)(x:Plan)(k:Nat)(y:Lot):(Zbz m x k y).length<=2:=by
 have h:∀s,(Ye s).length<=1:=fun s=>by unfold Ye;split<;>simp
 unfold Zbz;simp only
 split
 ·exact Nat.le_trans (h _) (by omega)
 ·rw[List.length_append];have:=h {cause:=m.cause,src:=y.id,dst:=QO m.cause (if x.n.getD k 0=0 then 1 else QD x.n k+1),q:=if m.keep=true then[] else y.q,made:=Qa (x.n.getD k 0),cost:=Qa (x.mv k)}
  have:=h {cause:=m.cause,src:=y.id,dst:=[],q:=[],made:=[],cost:=Qa (x.f.getD k 0)}
  omega
def toR(m:Mp)(x:Plan)(N i:Nat):List (List UInt8):=(List.range N).map fun j=>if x.n.getD j 0=0 then(if j<i/\x.parts≠0 then QO m.cause 1 else[]) else QO m.cause (QD x.n j+1)
def toP(N:Nat)(l:List (Nat×Lot)):List (List UInt8):=l.foldl (fun a z=>a.set z.1 z.2.id) (List.replicate N [])
theorem Zgl(N:Nat)(l:List (Nat×Lot))(z:Nat×Lot):toP N (l++[z])=(toP N l).set z.1 z.2.id:=by unfold toP;rw[List.foldl_append];rfl
theorem Zip(N:Nat)(l:List (Nat×Lot)):(toP N l).length=N:=by
 unfold toP
 have h:∀(l:List (Nat×Lot)) (a:List (List UInt8)),(l.foldl (fun a z=>a.set z.1 z.2.id) a).length=a.length:=by
  intro l
  induction l with
  |nil=>intro a;rfl
  |cons z l ih=>intro a;rw[List.foldl_cons,ih,List.length_set]
 rw[h,List.length_replicate]
theorem Zja(m:Mp)(x:Plan)(old:List Lot)(i:Nat)(hi:i<=old.length):
 toP old.length (QY m x old i)=(List.range old.length).map fun j=>if j<i/\x.n.getD j 0≠0 then QO m.cause (QD x.n j+1) else[]:=by
 induction i with
 |zero=>
  refine List.ext_getElem (by simp[Zip]) fun j h1 h2=> ?_
  simp[toP,QY]
 |succ i ih=>
  have hlt:i<old.length:=by omega
  rw[Yy,List.getElem?_eq_getElem hlt];simp only
  by_cases h0:x.n.getD i 0=0
  ·rw[if_pos h0,List.append_nil,ih (by omega)];refine List.map_congr_left fun j _=> ?_
   by_cases hj:j<i
   ·simp only[hj,show j<i+1 by omega]
   ·by_cases hji:j=i
    ·subst hji;rw[if_neg (fun h=>by omega),if_neg (fun h=>h.2 h0)]
    ·simp[hj,show ¬j<i+1 by omega]
  ·rw[if_neg h0,Zgl,ih (by omega)];refine List.ext_getElem (by simp) fun j h1 h2=> ?_
   rw[List.getElem_set];simp only[List.getElem_map,List.getElem_range]
   by_cases hji:i=j
   ·subst hji;rw[if_pos rfl,if_pos ⟨by omega,h0⟩];rfl
   ·rw[if_neg hji]
    by_cases hj:j<i
    ·simp only[hj,show j<i+1 by omega]
    ·simp only[hj,show ¬j<i+1 by omega]
theorem ZlW(m:Mp)(x:Plan)(old:List Lot):toP old.length (QR m x old)=toR m x old.length 0:=by
 unfold QR toR;rw[Zja m x old _ (Nat.le_refl _)];refine List.map_congr_left fun j hj=> ?_
 have hj:=List.mem_range.1 hj
 by_cases h0:x.n.getD j 0=0<;>simp[hj]
theorem Ziq(m:Mp)(x:Plan)(N i j:Nat)(hj:j<N):(toR m x N i)[j]?=some (if x.n.getD j 0=0 then(if j<i/\x.parts≠0 then QO m.cause 1 else[]) else QO m.cause (QD x.n j+1)):=by
 unfold toR;rw[List.getElem?_map,List.getElem?_range hj];rfl
theorem Zgm(m:Mp)(x:Plan)(N i:Nat)(h:x.n.getD i 0≠0\/x.parts=0):toR m x N (i+1)=toR m x N i:=by
 unfold toR;refine List.map_congr_left fun j _=> ?_
 by_cases hji:j=i
 ·subst hji
  rcases h with h|h
  ·rw[if_neg h,if_neg h]
  ·simp[h]
 ·by_cases hj:j<i
  ·simp only[hj,show j<i+1 by omega]
  ·simp only[hj,show ¬j<i+1 by omega]
theorem ZlX(m:Mp)(x:Plan)(N i:Nat)(_hi:i<N)(h0:x.n.getD i 0=0)(hp:x.parts≠0):(toR m x N i).set i (QO m.cause 1)=toR m x N (i+1):=by
 unfold toR;refine List.ext_getElem (by simp) fun j h1 h2=> ?_
 rw[List.getElem_set];simp only[List.getElem_map,List.getElem_range]
 by_cases hji:i=j
 ·subst hji;rw[if_pos rfl,if_pos h0,if_pos ⟨by omega,hp⟩]
 ·rw[if_neg hji]
  by_cases hj:j<i
  ·simp only[hj,show j<i+1 by omega]
  ·simp only[hj,show ¬j<i+1 by omega]
def VF(l:List (List UInt8)):Array Value:=(l.map fun s=>Value.string ⟨s.toArray⟩).toArray
theorem ZbH(l:List (List UInt8))(j:Nat)(s:List UInt8)(h:l[j]?=some s):(VF l)[j]?=some (.string ⟨s.toArray⟩):=by unfold VF;simp[h]
theorem Zgn(l:List (List UInt8))(j:Nat)(s:List UInt8):(VF l).setIfInBounds j (.string ⟨s.toArray⟩)=VF (l.set j s):=by unfold VF;simp[List.map_set]
theorem Zjb(N:Nat):Qo [] N 0=VF (toP N []):=by
 apply Array.ext_getElem?
 intro j;unfold Qo VF toP
 rcases Nat.lt_or_ge j N with h|h
 ·simp[h]
 ·simp[h]
end
end Go.Proofs.YtpnncoinlopndaaGreatDoor
