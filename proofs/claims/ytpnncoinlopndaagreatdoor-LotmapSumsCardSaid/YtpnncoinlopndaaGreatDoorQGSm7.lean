/- A0, W0, Lp0, Ig, Sv, CfI, AL1, Dw, Sx, Sc, Pr. -/
import Derived.Test.YtpnncoinlopndaaGreatDoorQGSm6
import Derived.Calls
import Derived.Sort.Grow
import Derived.Shelf.SlSortCmp.NoneTotal
import Derived.Sort.OwnSorted
set_option maxRecDepth 20000
set_option maxHeartbeats 1000000
namespace Go.Proofs.YtpnncoinlopndaaGreatDoor
open Go.Lib renaming hid→hdz
section
open Go.RowKit Go.Shelf
def baseL(t:Int)(ws:List Int):List Int:=ws.map fun w=>(t*w).fdiv ws.sum
def restL(t:Int)(ws:List Int):List Int:=ws.map fun w=>(t*w).fmod ws.sum
def missL(t:Int)(ws:List Int):Int:=t-(baseL t ws).sum
def befB(rs:List Int)(i k:Nat):Bool:=decide (rs.getD k 0<rs.getD i 0∨(rs.getD i 0=rs.getD k 0∧i≤k))
def ordL(rs:List Int):List Nat:=(List.range rs.length).mergeSort (befB rs)
def upL(t:Int)(ws:List Int):List Nat:=(ordL (restL t ws)).take (missL t ws).toNat
def posL(t:Int)(ws:List Int):List Int:=(baseL t ws).mapIdx fun i b=>if i∈upL t ws then b+1 else b
theorem ZaE(l m:List Int):(l++m).sum=l.sum+m.sum:=by
 induction l with
 |nil=>simp
 |cons a l ih=>simp only[List.cons_append,List.sum_cons,ih];omega
theorem Zas{l:List Int}(h:∀x∈l,0≤x):0≤l.sum:=by
 induction l with
 |nil=>simp
 |cons a l ih=>
  have h1:=h a (by simp)
  have h2:=ih (fun x hx=>h x (by simp[hx]))
  simp only[List.sum_cons];omega
theorem Zdp{l:List Int}(h:∀x∈l,0≤x){x:Int}(hx:x∈l):x≤l.sum:=by
 induction l with
 |nil=>simp at hx
 |cons a l ih=>
  have h1:=h a (by simp)
  have h2:=Zas (fun x hx=>h x (List.mem_cons_of_mem a hx))
  simp only[List.sum_cons]
  rcases List.mem_cons.1 hx with e|hx
  ·omega
  ·have:=ih (fun x hx=>h x (by simp[hx])) hx;omega
theorem ZeJ(t S:Int)(ws:List Int):S*(ws.map fun w=>(t*w).fdiv S).sum+(ws.map fun w=>(t*w).fmod S).sum=t*ws.sum:=by
 induction ws with
 |nil=>simp
 |cons a l ih=>
  simp only[List.map_cons,List.sum_cons,Int.mul_add] at ih ⊢
  have:=Int.mul_fdiv_add_fmod (t*a) S
  omega
theorem Zfl(t:Int)(ws:List Int):ws.sum*(baseL t ws).sum+(restL t ws).sum=t*ws.sum:=ZeJ t ws.sum ws
theorem ZhC(t:Int)(ws:List Int):(restL t ws).sum=ws.sum*missL t ws:=by
 have h:=Zfl t ws
 unfold missL
 rw[Int.mul_sub,Int.mul_comm ws.sum t]
 omega
theorem ZaR(t:Int){ws:List Int}(hS:0<ws.sum):∀r∈restL t ws,0≤r∧r<ws.sum:=by
 intro r hr
 obtain⟨w,_,rfl⟩:=List.mem_map.1 hr
 exact⟨Int.fmod_nonneg_of_pos _ hS,Int.fmod_lt_of_pos _ hS⟩
theorem Zbl(t:Int){ws:List Int}(hS:0<ws.sum):0≤missL t ws:=by
 have h1:=ZhC t ws
 have h2:=Zas (fun r hr=>(ZaR t hS r hr).1)
 rw[h1] at h2
 rcases Int.lt_or_le (missL t ws) 0 with h|h
 ·have:=Int.mul_neg_of_pos_of_neg hS h;omega
 ·exact h
theorem Zf0{S:Int}{l:List Int}(h:∀r∈l,0≤r∧r<S):l.sum≤S*(l.countP (fun r=>decide (0<r)):Nat)∧(0<l.sum→l.sum<S*(l.countP (fun r=>decide (0<r)):Nat)):=by
 induction l with
 |nil=>simp
 |cons a l ih=>
  obtain⟨h1,h2⟩:=ih (fun r hr=>h r (by simp[hr]))
  obtain⟨h3,h4⟩:=h a (by simp)
  simp only[List.sum_cons,List.countP_cons]
  by_cases ha:0<a
  ·simp only[ha,decide_true,if_true,Int.natCast_add,Int.mul_add]
   constructor<;>omega
  ·have:a=0:=by omega
   subst this
   simp only[Int.lt_irrefl,decide_false,Bool.false_eq_true,if_false,Nat.add_zero,Int.zero_add]
   exact⟨h1,h2⟩
theorem Zba(t:Int){ws:List Int}(hS:0<ws.sum):missL t ws≤((restL t ws).countP (fun r=>decide (0<r)):Nat):=by
 have h1:=(Zf0 (ZaR t hS)).1
 rw[ZhC] at h1
 exact Int.le_of_mul_le_mul_left h1 hS
theorem ZeU(rs:List Int)(i k:Nat):(befB rs i k||befB rs k i)=true:=by
 unfold befB
 simp only[Bool.or_eq_true,decide_eq_true_eq]
 omega
theorem Zid(rs:List Int)(i j k:Nat)(h1:befB rs i j=true)(h2:befB rs j k=true):befB rs i k=true:=by
 unfold befB at*
 simp only[decide_eq_true_eq] at*
 omega
theorem Zca(rs:List Int):(ordL rs).Perm (List.range rs.length):=List.mergeSort_perm _ _
theorem ZbJ(rs:List Int):(ordL rs).Nodup:=(Zca rs).nodup_iff.2 List.nodup_range
theorem Zed(rs:List Int):(ordL rs).Pairwise (fun i k=>befB rs i k=true):=List.pairwise_mergeSort (Zid rs) (ZeU rs) _
theorem Zcn{rs:List Int}{i:Nat}:i∈ordL rs↔i<rs.length:=by rw[(Zca rs).mem_iff];exact List.mem_range
theorem Zaw(rs:List Int):(ordL rs).length=rs.length:=by rw[(Zca rs).length_eq,List.length_range]
theorem Zie(rs:List Int)(p:Int→Bool):(List.range rs.length).countP (fun i=>p (rs.getD i 0))=rs.countP p:=by
 induction rs with
 |nil=>simp
 |cons a l ih=>
  rw[List.length_cons,List.range_succ_eq_map,List.countP_cons,List.countP_cons,List.countP_map]
  simp only[List.getD_cons_zero]
  rw[←ih]
  rfl
theorem Znk(t:Int){ws:List Int}(hS:0<ws.sum){i:Nat}(hi:i∈upL t ws):0<(restL t ws).getD i 0:=by
 have hm:=Zba t hS
 have hb:=ZaR t hS
 unfold upL at hi
 generalize restL t ws=rs at*
 generalize missL t ws=m at*
 rcases Int.lt_or_le 0 (rs.getD i 0) with h|h
 ·exact h
 exfalso
 obtain⟨k,hk,hki⟩:=List.getElem_of_mem hi
 have hkl:k<(ordL rs).length:=by rw[List.length_take] at hk;omega
 have hkm:k<m.toNat:=by rw[List.length_take] at hk;omega
 rw[List.getElem_take] at hki
 have hsplit:(ordL rs).countP (fun i=>decide (0<rs.getD i 0))≤k:=by
  rw[←List.take_append_drop k (ordL rs),List.countP_append]
  have h1:((ordL rs).take k).countP (fun i=>decide (0<rs.getD i 0))≤k:=Nat.le_trans List.countP_le_length (by rw[List.length_take];omega)
  have h2:((ordL rs).drop k).countP (fun i=>decide (0<rs.getD i 0))=0:=by
   rw[List.countP_eq_zero]
   intro j hj
   obtain⟨l,hl,hlj⟩:=List.getElem_of_mem hj
   rw[List.getElem_drop] at hlj
   have hl':k+l<(ordL rs).length:=by rw[List.length_drop] at hl;omega
   have hle:rs.getD j 0≤rs.getD i 0:=by
    rcases Nat.eq_zero_or_pos l with e|e
    ·subst e
     have e2:i=j:=hki.symm.trans hlj
     rw[e2]
     exact Int.le_refl _
    ·have:=List.pairwise_iff_getElem.1 (Zed rs) k (k+l) hkl hl' (by omega)
     rw[hki,hlj] at this
     unfold befB at this
     simp only[decide_eq_true_eq] at this
     omega
   simp only[decide_eq_true_eq]
   omega
  omega
 rw[(Zca rs).countP_eq,Zie rs (fun r=>decide (0<r))] at hsplit
 omega
theorem Zjd(t:Int){ws:List Int}(hS:0<ws.sum):((upL t ws).length:Int)=missL t ws:=by
 have h1:=Zba t hS
 have h2:=Zbl t hS
 have h3:(restL t ws).countP (fun r=>decide (0<r))≤(restL t ws).length:=List.countP_le_length
 unfold upL
 rw[List.length_take,Zaw]
 omega
theorem ZbX(t:Int)(ws:List Int):(posL t ws).length=ws.length:=by simp[posL,baseL]
theorem ZhD(t:Int)(ws:List Int)(i:Nat)(hi:i<ws.length):(posL t ws)[i]?=some (if i∈upL t ws then(t*ws[i]).fdiv ws.sum+1 else(t*ws[i]).fdiv ws.sum):=by
 simp[posL,baseL,hi]
theorem Zfm(l:List Int)(P:Nat→Prop)[DecidablePred P]:(l.mapIdx fun i b=>if P i then b+1 else b).sum=l.sum+((List.range l.length).countP (fun i=>decide (P i)):Nat):=by
 induction l generalizing P with
 |nil=>simp
 |cons a l ih=>
  rw[List.mapIdx_cons,List.sum_cons,List.sum_cons,List.length_cons,List.range_succ_eq_map,List.countP_cons,List.countP_map]
  have:=ih (fun i=>P (i+1))
  rw[this]
  have e:((fun i=>decide (P i)) ∘ Nat.succ)=fun i=>decide (P (i+1)):=rfl
  rw[e]
  by_cases h0:P 0<;>simp[h0]<;>omega
theorem ZhE(t:Int){ws:List Int}(hS:0<ws.sum):(posL t ws).sum=t:=by
 unfold posL
 rw[Zfm (baseL t ws) (fun i=>i∈upL t ws)]
 have h1:(List.range (baseL t ws).length).countP (fun i=>decide (i∈upL t ws))=(upL t ws).length:=by
  have hl:(baseL t ws).length=(restL t ws).length:=by simp[baseL,restL]
  rw[hl,←(Zca (restL t ws)).countP_eq]
  have hn:=ZbJ (restL t ws)
  unfold upL
  generalize ordL (restL t ws)=o at*
  generalize (missL t ws).toNat=m at*
  have hd:((o.take m)++(o.drop m)).Nodup:=by rw[List.take_append_drop];exact hn
  rw[List.nodup_append] at hd
  have e:o.countP (fun i=>decide (i∈o.take m))=(o.take m).countP (fun i=>decide (i∈o.take m))+(o.drop m).countP (fun i=>decide (i∈o.take m)):=by
   rw[←List.countP_append,List.take_append_drop]
  rw[e,List.countP_eq_length.2 (fun a ha=>by simpa using ha),List.countP_eq_zero.2 (fun a ha=>by
   simp only[decide_eq_true_eq]
   intro hm
   exact hd.2.2 a hm a ha rfl)]
  rfl
 rw[h1,Zjd t hS]
 unfold missL
 omega
end
section
open Go.RowKit Go.Shelf
def sumV(ws:List (List UInt8)):Int:=(ws.map val).sum
theorem Zje(ws:List (List UInt8))(x:List UInt8):sumV (ws++[x])=sumV ws+val x:=by
 unfold sumV
 rw[List.map_append,ZaE]
 simp
theorem Zee{ws:List (List UInt8)}{k:Nat}{x:List UInt8}(h:ws[k]?=some x):sumV (ws.take (k+1))=sumV (ws.take k)+val x:=by
 obtain⟨hk,rfl⟩:=List.getElem?_eq_some_iff.1 h
 rw[List.take_succ_eq_append_getElem hk,Zje]
theorem ZhF{ws:List (List UInt8)}{L:Nat}(h:∀x∈ws,x.length≤L):(sumV ws).natAbs≤ws.length*10^L:=by
 unfold sumV
 induction ws with
 |nil=>simp
 |cons a l ih=>
  have h1:=ih (fun x hx=>h x (by simp[hx]))
  have h2:=Zai (h a (by simp))
  simp only[List.map_cons,List.sum_cons,List.length_cons,Nat.succ_mul]
  omega
theorem Zfn{ws:List (List UInt8)}{L:Nat}(h:∀x∈ws,x.length≤L)(hn:ws.length≤9999):(txtL (sumV ws)).length≤L+5:=by
 refine Zab (L:=L+4) ?_
 have h1:=ZhF h
 have h2:ws.length*10^L<10^4*10^L:=Nat.mul_lt_mul_of_pos_right (by omega) (Nat.pow_pos (by omega))
 rw[Nat.pow_add,Nat.mul_comm (10^L)]
 omega
theorem Zbb{ws:List (List UInt8)}{L:Nat}(h:∀x∈ws,x.length≤L)(hn:ws.length≤9999)(k:Nat):(txtL (sumV (ws.take k))).length≤L+5:=
 Zfn (fun x hx=>h x (List.mem_of_mem_take hx)) (by rw[List.length_take];omega)
end
section
open Go.RowKit Go.Shelf
structure Lot where
 id:List UInt8
 inst:List UInt8
 acq:Int
 opn:Int
 q:List UInt8
 c:List UInt8
 u:List UInt8
deriving DecidableEq
def canB(a:List UInt8):Bool:=decide (a=txtL (val a))
theorem Zcb(n:Int):canB (txtL n)=true:=by unfold canB;rw[Zaa];simp
theorem Zmq{a:List UInt8}(h:canB a=true):a=txtL (val a):=by simpa[canB] using h
def nameC(c:UInt8):Bool:=(decide (97≤c)&&decide (c≤122))||(decide (48≤c)&&decide (c≤57))||c==95
def nameB(s:List UInt8):Bool:=decide (s≠[])&&decide (s.length≤16)&&s.all nameC
def numB(s:List UInt8):Bool:=decide (1≤s.length)&&decide (s.length≤4)&&decide (s.head?≠some 48)&&s.all isDig
def idB(s:List UInt8):Bool:=decide (47∈s)&&nameB (s.takeWhile (·!=47))&&numB ((s.dropWhile (·!=47)).drop 1)
def dayB(d:Int):Bool:=decide (-25567≤d)&&decide (d≤84005)
def lotC(l:Lot):Int:=
 if !(idB l.id&&nameB l.inst) then 23 else if !(dayB l.acq&&dayB l.opn) then 13 else if l.opn<l.acq then 8
 else if !(canB l.q&&canB l.c&&canB l.u) then 1 else if val l.q≤0∨val l.c<0∨(l.u≠[]∧l.u≠l.q) then 2 else 0
def lotsC(seen:List (List UInt8)):List Lot→Int
 |[]=>0
 |x::l=>if lotC x≠0 then lotC x else if x.id∈seen then 5 else lotsC (x.id::seen) l
def allC(l:List Lot):Int:=if 1000<l.length then 4 else lotsC [] l
structure Lot.Ok (l:Lot):Prop where
 id:idB l.id=true
 inst:nameB l.inst=true
 acq:dayB l.acq=true
 opn:dayB l.opn=true
 ord:l.acq≤l.opn
 q:canB l.q=true
 c:canB l.c=true
 q0:0<val l.q
 c0:0≤val l.c
 u:l.u=[]∨l.u=l.q
theorem ZgK(l:Lot):lotC l=0↔l.Ok:=by
 unfold lotC
 constructor
 ·intro h
  split at h
  ·cases h
  rename_i h1
  split at h
  ·cases h
  rename_i h2
  split at h
  ·cases h
  rename_i h3
  split at h
  ·cases h
  rename_i h4
  split at h
  ·cases h
  rename_i h5
  simp only[Bool.not_eq_true',Bool.not_eq_false,Bool.and_eq_true] at h1 h2 h4
  simp only[not_or,not_and,Int.not_le,Int.not_lt] at h5
  refine⟨h1.1,h1.2,h2.1,h2.2,by omega,h4.1.1,h4.1.2,h5.1,h5.2.1,?_⟩
  by_cases hu:l.u=[]
  ·exact .inl hu
  ·exact .inr (Classical.not_not.1 (h5.2.2 hu))
 ·intro h
  rw[if_neg (by simp[h.id,h.inst]),if_neg (by simp[h.acq,h.opn]),if_neg (by have:=h.ord;omega),if_neg,if_neg]
  ·simp only[not_or,not_and,Int.not_le,Int.not_lt]
   refine⟨h.q0,h.c0,fun hu=> ?_⟩
   rcases h.u with e|e
   ·exact absurd e hu
   ·exact fun hn=>hn e
  ·have hcu:canB l.u=true:=by
    rcases h.u with e|e
    ·rw[e];decide+kernel
    ·rw[e];exact h.q
   simp[h.q,h.c,hcu]
theorem ZkK(seen:List (List UInt8))(l:List Lot):lotsC seen l=0↔(∀x∈l,x.Ok)∧(l.map (·.id)).Nodup∧∀x∈l,x.id ∉ seen:=by
 induction l generalizing seen with
 |nil=>simp[lotsC]
 |cons a l ih=>
  unfold lotsC
  by_cases h1:lotC a≠0
  ·rw[if_pos h1]
   constructor
   ·intro h;exact absurd h h1
   ·intro h;exact absurd ((ZgK a).2 (h.1 a (by simp))) h1
  ·rw[if_neg h1]
   by_cases h2:a.id∈seen
   ·rw[if_pos h2]
    constructor
    ·intro h;cases h
    ·intro h;exact absurd h2 (h.2.2 a (by simp))
   ·rw[if_neg h2,ih]
    have h1':lotC a=0:=Classical.not_not.1 h1
    constructor
    ·intro⟨ha,hb,hc⟩
     refine⟨?_,?_,?_⟩
     ·intro x hx
      rcases List.mem_cons.1 hx with rfl|hx
      ·exact(ZgK _).1 h1'
      ·exact ha x hx
     ·rw[List.map_cons,List.nodup_cons]
      refine⟨?_,hb⟩
      intro hm
      obtain⟨x,hx,e⟩:=List.mem_map.1 hm
      exact hc x hx (by simp[e])
     ·intro x hx
      rcases List.mem_cons.1 hx with rfl|hx
      ·exact h2
      ·exact fun hs=>hc x hx (by simp[hs])
    ·intro⟨ha,hb,hc⟩
     rw[List.map_cons,List.nodup_cons] at hb
     refine⟨fun x hx=>ha x (by simp[hx]),hb.2,fun x hx=> ?_⟩
     simp only[List.mem_cons,not_or]
     exact⟨fun e=>hb.1 (List.mem_map.2 ⟨x,hx,e⟩),hc x (by simp[hx])⟩
structure LotsOk (l:List Lot):Prop where
 len:l.length≤1000
 ok:∀x∈l,x.Ok
 ids:(l.map (·.id)).Nodup
theorem ZbA(l:List Lot):allC l=0↔LotsOk l:=by
 unfold allC
 split
 ·rename_i h
  exact⟨(fun e=>absurd e (by decide)),(fun e=>absurd e.len (by omega))⟩
 ·rename_i h
  rw[ZkK]
  exact⟨fun e=>⟨by omega,e.1,e.2.1⟩,fun e=>⟨e.ok,e.ids,fun x _=>by simp⟩⟩
def leS(a b:List UInt8):Bool:=Op.bytesLess a b||a==b
def putAt(l:List Lot)(i:List UInt8):Nat:=l.length-(l.reverse.takeWhile (fun y=> !leS y.inst i)).length
def putL(l:List Lot)(x:Lot):List Lot:=l.take (putAt l x.inst)++x::l.drop (putAt l x.inst)
def openL(l:List Lot)(x:Lot):List Lot×Int:=
 if allC l≠0 then([],1) else if lotC x≠0 then([],lotC x) else if x.id∈l.map (·.id) then([],5) else if 1000≤l.length then([],4) else(putL l x,0)
def lotsOf(l:List Lot)(i:List UInt8):List Lot:=l.filter (fun x=>x.inst==i)
end
section
open Go.RowKit
section
variable {α:Type} {p:α→Bool} {xs:List α}
def idxG(p:α→Bool)(xs:List α):Int:=match xs.findIdx? p with|some i=>(i:Int)|none=> -1
theorem Zfo{j:Nat}{r:α}(h:xs[j]?=some r)(hr:p r=true)(hn:(xs.take j).any p=false):idxG p xs=j:=by
 unfold idxG
 have:xs.findIdx? p=some j:=by
  rw[List.findIdx?_eq_some_iff_getElem]
  obtain⟨hj,rfl⟩:=List.getElem?_eq_some_iff.1 h
  refine⟨hj,hr,fun i hi=> ?_⟩
  rw[List.any_eq_false] at hn
  have:=hn xs[i] (by rw[List.mem_take_iff_getElem];exact⟨i,by omega,rfl⟩)
  simpa using this
 rw[this]
theorem ZcZ(hn:xs.any p=false):idxG p xs= -1:=by
 unfold idxG
 have:xs.findIdx? p=none:=by
  rw[List.findIdx?_eq_none_iff];intro x hx;rw[List.any_eq_false] at hn;simpa using hn x hx
 rw[this]
theorem Zef(p:α→Bool)(xs:List α):decide (0≤idxG p xs)=xs.any p:=by
 cases h:xs.any p with
 |false=>rw[ZcZ h];rfl
 |true=>
  rw[List.any_eq_true] at h
  obtain⟨x,hx,hp⟩:=h
  unfold idxG
  cases hf:xs.findIdx? p with
  |none=>rw[List.findIdx?_eq_none_iff] at hf;rw[hf x hx] at hp;cases hp
  |some i=>simp
theorem Zc0{j:Nat}{r:α}(h:xs[j]?=some r)(hn:(xs.take j).any p=false)(hr:p r=false):(xs.take (j+1)).any p=false:=by
 obtain⟨hj,rfl⟩:=List.getElem?_eq_some_iff.1 h
 rw[List.take_succ_eq_append_getElem hj,List.any_append,hn];simp[hr]
end
end
section
open Go.RowKit Go.Shelf
def S1(s:List UInt8):List Value:=[S s]
theorem ZaL(s:List UInt8):(S1 s).length=1:=rfl
theorem Zcc(s:List UInt8):∀u∈S1 s,u.oneCell'=true:=by intro u hu;simp[S1] at hu;subst hu;rfl
abbrev Strs(w:World)(B:Nat)(A:Option Addr)(n:Nat)(xs:List (List UInt8)):Prop:=Sl S1 1 w B A n xs
theorem Sl.st{w:World}{B:Nat}{A:Option Addr}{n:Nat}{xs:List (List UInt8)}{i:Nat}(h:Strs w B A n xs)(hi:i<n):
 ∃b off x,A=some ⟨b,off,none⟩∧b<B∧xs[i]?=some x∧w.cell? ⟨b,off+i,none⟩=some (.string ⟨x.toArray⟩):=by
 obtain⟨b,off,x,hA,hb,hx,hc⟩:=h.at_ hi
 have:=hc 0 _ rfl
 rw[Nat.mul_one,Nat.add_zero] at this
 exact⟨b,off,x,hA,hb,hx,this⟩
end
section
open Go.RowKit Go.Shelf
theorem ZgL(g:Nat)(cb:Array Value)(p:(List UInt8)→Bool)(A:Option Addr)(n c:Nat)(xs:List (List UInt8))(w:World)(eg:∀args w,(callFunc g args).run Tryz.prog w=.ok (.enter g args) w)
 (hp:∀(W:World) (x:(List UInt8)),x∈xs→Below w.heap.size w W→Calls Tryz.prog g (#[S x]++cb) W fun e w'=>e=.returned (.bool (p x))∧Below W.heap.size W w') (hr:Sl S1 1 w w.heap.size A n xs) (hn:n≤1000000000):
 Calls Tryz.prog 238 #[.slice A n c,.func (.func g) #[] cb] w fun e w'=>e=.returned (.int .i64 (idxG p xs))∧Below w.heap.size w w':=by
 have HPR:=hdz hp;have HR:=hdz hr
 clear hp hr
 go_enter Tryz.func238,Tryz.ntmps238
 go_wp2
 go_loopw [5,8] (fun _ i wr=>∃j:Nat,j≤n∧i=.int .i64 j∧Hid ((xs.take j).any p=false)∧Below w.heap.size w wr) (fun _ i _=>n-(intOf i).toNat)
 case atStart=>exact⟨0,Nat.zero_le _,rfl,by show _=_;simp,Below.refl _ _⟩
 case round=>
  obtain⟨j,hj,rfl,HN,hb⟩:=hrel
  by_cases hlt:j<n
  ·obtain⟨b,off,r,rfl,hbl,hxj,hd⟩:=(HR.out.below hb).at_ hlt
   have d0:wr.cell? ⟨b,off+j,none⟩=some (.string ⟨r.toArray⟩):=by have:=hd 0 _ rfl;rwa [Nat.mul_one,Nat.add_zero] at this
   have HX:=hdz hxj
   have hcall:=HPR.out wr r (List.mem_of_getElem? hxj) hb
   unfold S at hcall
   clear hxj hd
   have HC:=hdz hcall;clear hcall
   cases hq:p r with
   |true=>
    rw[hq] at HC
    have HQ:=hdz hq;clear hq
    go_wp2_with (go_at_fn g;refine(HC.out).mono ?_;rintro e w' ⟨rfl,hb'⟩)
    go_ret
    exact⟨Zad (Zfo HX.out HQ.out HN.out).symm,hb.trans (hb'.mono hb.size)⟩
   |false=>
    rw[hq] at HC
    have HQ:=hdz hq;clear hq
    go_wp2_with (go_at_fn g;refine(HC.out).mono ?_;rintro e w' ⟨rfl,hb'⟩)
    go_roundw
    case rel=>exact⟨j+1,by omega,by go_num,Zc0 HX.out HN.out HQ.out,hb.trans (hb'.mono hb.size)⟩
    case measure=>simp[intOf];omega
  ·go_wp2
   go_ret
   exact⟨Zad (ZcZ (by have:=HN.out;rwa [List.take_of_length_le (by have:=HR.out.1;omega)] at this)).symm,hb⟩
theorem ZeK(g:Nat)(cb:Array Value)(p:(List UInt8)→Bool)(A:Option Addr)(n c:Nat)(xs:List (List UInt8))(w:World)(eg:∀args w,(callFunc g args).run Tryz.prog w=.ok (.enter g args) w)
 (hp:∀(W:World) (x:(List UInt8)),x∈xs→Below w.heap.size w W→Calls Tryz.prog g (#[S x]++cb) W fun e w'=>e=.returned (.bool (p x))∧Below W.heap.size W w') (hr:Sl S1 1 w w.heap.size A n xs) (hn:n≤1000000000):
 Calls Tryz.prog 202 #[.slice A n c,.func (.func g) #[] cb] w fun e w'=>e=.returned (.bool (xs.any p))∧Below w.heap.size w w':=by
 have H:=hdz (ZgL g cb p A n c xs w eg hp hr hn);clear hp eg hr
 have e:=Zef p xs
 generalize idxG p xs=z at*
 have E:=hdz e;clear e
 go_enter Tryz.func202,Tryz.ntmps202
 go_wp2_with (go_at_call 238;refine(H.out).mono ?_;rintro e w' ⟨rfl,hb'⟩)
 go_ret
 exact⟨Zaf E.out,hb'⟩
end
section
open Go.RowKit Go.Shelf
theorem Zbc(a:List UInt8)(ha:a.length≤100000):Gives 170 #[S a] (.bool (decide (val a<0))):=by
 intro w hp
 have HC:=hdz (Zar a [] w ha (by simp))
 rw[ZaD,Int.sub_zero] at HC
 have HE:=hdz (show decide (sgnI (val a)<0)=decide (val a<0) by rw[Bool.eq_iff_iff,decide_eq_true_eq,decide_eq_true_eq];unfold sgnI;(repeat' split)<;>omega)
 generalize sgnI (val a)=z at*
 generalize decide (val a<0)=bb at*
 clear ha hp
 unfold S at*
 go_enter Tryz.func170,Tryz.ntmps170
 go_wp2_with fail
 refine HC.out.mono ?_
 rintro e w1 ⟨rfl,hb⟩
 go_wp2_with fail
 first|go_ret|skip
 exact⟨Zaf HE.out,hb⟩
theorem ZeV(A:Option Addr)(n c:Nat)(ws:List (List UInt8))(w:World)(hp:Env w)(hs:Strs w w.heap.size A n ws)(hl:∀x∈ws,x.length≤50000)(hn:n≤9999):
 Calls Tryz.prog 204 #[.slice A n c] w (StrPost (txtL (sumV ws)) w):=by
 have HPO:=hdz (show StrPost (txtL (sumV ws)) w=fun e w'=>e=.returned (S (txtL (sumV ws)))∧Below w.heap.size w w' from rfl)
 generalize StrPost (txtL (sumV ws)) w=post at*
 have HS:=hdz hs;have HL:=hdz hl
 have H0:=hdz (Kp.start hp)
 have hnw:=hs.1
 have HNW:=hdz hnw
 clear hs hl hp hnw
 unfold S at*
 go_enter Tryz.func204,Tryz.ntmps204
 go_wp2_with fail
 go_loopw [3,8] (fun s i wr=>∃k:Nat,k≤n∧i=.int .i64 k∧s=.string ⟨(txtL (sumV (ws.take k))).toArray⟩∧Hid (Kp w [] wr)) (fun _ i _=>n-(intOf i).toNat)
 case atStart=>exact⟨0,Nat.zero_le _,rfl,rfl,H0⟩
 case round=>
  clear H0
  obtain⟨k,hk,rfl,rfl,H⟩:=hrel
  by_cases hlt:k<n
  ·obtain⟨b,off,x,rfl,hb,hx,d0⟩:=(HS.out.below H.out.bl).st hlt
   have HA:=hdz (ZbT (txtL (sumV (ws.take k))) x wr H.out.po (by have:=Zbb HL.out (by rw[←HNW.out];omega) k;omega) (by have:=HL.out x (List.mem_of_getElem? hx);omega))
   rw[Zaa,←Zee hx] at HA
   clear hx
   unfold S at HA
   go_wp2_with fail
   refine HA.out.mono ?_
   rintro e w1 ⟨rfl,hb1⟩
   try unfold S
   go_wp2_with fail
   go_roundw
   case rel=>exact⟨k+1,by omega,by go_num,rfl,H.out.here hb1⟩
   case measure=>simp[intOf];omega
  ·have HE:=hdz (show txtL (sumV (ws.take k))=txtL (sumV ws) by rw[List.take_of_length_le (by have:=HNW.out;omega)])
   rw[HE.out]
   go_wp2_with fail
   first|go_ret|skip
   rw[HPO.out]
   exact⟨rfl,H.out.bl⟩
def splitC(t:List UInt8)(ws:List (List UInt8)):Int:=
 if ws=[] then 11 else if 1000<ws.length then 4 else if canB t=false∨ws.any (fun x=> !canB x||decide (val x<0))=true then 1 else if sumV ws=0 then 10 else 0
theorem ZgM(a:List UInt8)(ha:a.length≤100000):Gives 203 #[S a] (.bool (!canB a||decide (val a<0))):=by
 intro w hp
 have HC:=hdz (Zaz a (by omega))
 have HN:=hdz (Zbc a ha)
 have H:=hdz (Kp.start hp)
 generalize decide (val a<0)=bb at*
 clear ha hp
 by_cases hc:a=txtL (val a)
 ·rw[if_pos hc] at HC
  have HCB:=hdz (show canB a=true by unfold canB;simpa using hc)
  rw[HCB.out]
  clear hc
  unfold S at*
  go_enter Tryz.func203,Tryz.ntmps203
  go_wp2_with fail
  refine(HC.out _ H.out.pw).mono ?_
  rintro e w1 ⟨rfl,hb⟩
  replace H:=hdz (H.out.here hb)
  clear hb
  go_wp2_with fail
  refine(HN.out _ H.out.pw).mono ?_
  rintro e w2 ⟨rfl,hb⟩
  go_wp2_with fail
  first|go_ret|skip
  exact⟨rfl,(H.out.here hb).bl⟩
 ·rw[if_neg hc] at HC
  have HCB:=hdz (show canB a=false by unfold canB;simpa using hc)
  rw[HCB.out]
  clear hc
  unfold S at*
  go_enter Tryz.func203,Tryz.ntmps203
  go_wp2_with fail
  refine(HC.out _ H.out.pw).mono ?_
  rintro e w1 ⟨rfl,hb⟩
  go_wp2_with fail
  first|go_ret|skip
  exact⟨rfl,(H.out.here hb).bl⟩
theorem ZeW(t:List UInt8)(A:Option Addr)(n c:Nat)(ws:List (List UInt8))(w:World)(hp:Env w)(hs:Strs w w.heap.size A n ws)(ht:t.length≤100000)(hl:∀x∈ws,x.length≤50000)(hn:n≤1000000000):
 Calls Tryz.prog 168 #[S t,.slice A n c] w (CmpIPost (splitC t ws) w):=by
 have HPO:=hdz (show CmpIPost (splitC t ws) w=fun e w'=>e=.returned (.int .i64 (splitC t ws))∧Below w.heap.size w w' from rfl)
 have HSC:=hdz (show splitC t ws=if ws=[] then 11 else if 1000<ws.length then 4 else if canB t=false∨ws.any (fun x=> !canB x||decide (val x<0))=true then 1 else if sumV ws=0 then 10 else 0 from rfl)
 generalize CmpIPost (splitC t ws) w=post at*
 generalize splitC t ws=res at*
 have HS:=hdz hs;have HL:=hdz hl
 have H:=hdz (Kp.start hp)
 have hnw:=hs.1
 have HC:=hdz (Zaz t (by omega))
 have HCF:=hdz (fun W (hb:Below w.heap.size w W)=>ZeK 203 #[] (fun x=> !canB x||decide (val x<0)) A n c ws W (enters_of Tryz.func203 (by kernel_rfl) rfl) (fun W' x hx hb'=>ZgM x (by have:=hl x hx;omega) W' ((hp.here hb).here hb')) (hs.here hb) hn)
 have HCT:=hdz (show(if t=txtL (val t) then(0:Int) else 1)=if canB t=true then 0 else 1 by
  unfold canB
  by_cases h:t=txtL (val t)
  ·rw[if_pos h,if_pos (decide_eq_true h)]
  ·rw[if_neg h,if_neg (by simpa using h)])
 rw[HCT.out] at HC
 generalize canB t=ct at*
 generalize ws.any (fun x=> !canB x||decide (val x<0))=an at*
 have HNW:=hdz hnw
 clear hs hl hp ht HCT
 unfold S at*
 rcases Nat.eq_zero_or_pos n with h0|h0
 ·subst h0
  rw[if_pos (List.eq_nil_of_length_eq_zero hnw.symm)] at HSC
  clear hnw hn
  go_enter Tryz.func168,Tryz.ntmps168
  go_wp2_with fail
  first|go_ret|skip
  rw[HPO.out,HSC.out]
  exact⟨rfl,H.out.bl⟩
 rw[if_neg (fun e=>by rw[e] at hnw;simp at hnw;omega),←hnw] at HSC
 have hn0:((n:Int)==0)=false:=by simp;omega
 by_cases h1:1000<n
 ·rw[if_pos h1] at HSC
  clear hnw
  go_enter Tryz.func168,Tryz.ntmps168
  go_wp2_with fail
  first|go_ret|skip
  rw[HPO.out,HSC.out]
  exact⟨rfl,H.out.bl⟩
 rw[if_neg h1] at HSC
 have hn1:¬1000<n:=h1
 have HW:=hdz (fun W (hb:Below w.heap.size w W)=>ZeV A n c ws W (H.out.pow.here hb) (HS.out.here hb) HL.out (by omega))
 have HE:=hdz (show(txtL (sumV ws)==[])=decide (sumV ws=0) by
  rw[Bool.eq_iff_iff]
  simp only[beq_iff_eq,decide_eq_true_eq]
  exact ZaQ)
 clear hnw h1
 cases ct with
 |false=>
  rw[if_pos (.inl rfl)] at HSC
  clear HCF HW HE
  go_enter Tryz.func168,Tryz.ntmps168
  go_wp2_with fail
  refine(HC.out _ H.out.pw).mono ?_
  rintro e w1 ⟨rfl,hb⟩
  go_wp2_with fail
  first|go_ret|skip
  rw[HPO.out,HSC.out]
  exact⟨rfl,(H.out.here hb).bl⟩
 |true=>
  cases an with
  |true=>
   rw[if_pos (.inr rfl)] at HSC
   clear HW HE
   go_enter Tryz.func168,Tryz.ntmps168
   go_wp2_with fail
   refine(HC.out _ H.out.pw).mono ?_
   rintro e w1 ⟨rfl,hb⟩
   replace H:=hdz (H.out.here hb)
   clear hb
   go_wp2_with fail
   refine(HCF.out _ H.out.bl).mono ?_
   rintro e w2 ⟨rfl,hb⟩
   go_wp2_with fail
   first|go_ret|skip
   rw[HPO.out,HSC.out]
   exact⟨rfl,(H.out.here hb).bl⟩
  |false=>
   rw[if_neg (by simp)] at HSC
   generalize txtL (sumV ws)=tw at*
   generalize hz:decide (sumV ws=0)=zz at*
   have HZ:=hdz hz
   clear hz
   cases zz with
   |true=>
    rw[if_pos (by have:=HZ.out;simpa using this)] at HSC
    have hx:(tw==[])=true:=HE.out
    clear HE HZ
    go_enter Tryz.func168,Tryz.ntmps168
    go_wp2_with fail
    refine(HC.out _ H.out.pw).mono ?_
    rintro e w1 ⟨rfl,hb⟩
    replace H:=hdz (H.out.here hb)
    clear hb
    go_wp2_with fail
    refine(HCF.out _ H.out.bl).mono ?_
    rintro e w2 ⟨rfl,hb⟩
    replace H:=hdz (H.out.here hb)
    clear hb
    go_wp2_with fail
    refine(HW.out _ H.out.bl).mono ?_
    rintro e w3 ⟨rfl,hb⟩
    try unfold S
    go_wp2_with fail
    first|go_ret|skip
    rw[HPO.out,HSC.out]
    exact⟨rfl,(H.out.here hb).bl⟩
   |false=>
    rw[if_neg (by have:=HZ.out;simpa using this)] at HSC
    have hx:(tw==[])=false:=HE.out
    clear HE HZ
    go_enter Tryz.func168,Tryz.ntmps168
    go_wp2_with fail
    refine(HC.out _ H.out.pw).mono ?_
    rintro e w1 ⟨rfl,hb⟩
    replace H:=hdz (H.out.here hb)
    clear hb
    go_wp2_with fail
    refine(HCF.out _ H.out.bl).mono ?_
    rintro e w2 ⟨rfl,hb⟩
    replace H:=hdz (H.out.here hb)
    clear hb
    go_wp2_with fail
    refine(HW.out _ H.out.bl).mono ?_
    rintro e w3 ⟨rfl,hb⟩
    try unfold S
    go_wp2_with fail
    first|go_ret|skip
    rw[HPO.out,HSC.out]
    exact⟨rfl,(H.out.here hb).bl⟩
end
section
open Go
def Rge{α:Type}(d:Nat):Result α→Prop
 | .ok _ w=>d≤w.drawn
 | .halt _ w=>d≤w.drawn
theorem Znl{α:Type}(q:Ask α)(w:World):w.drawn≤(w.ask q).2.drawn:=by
 induction q generalizing w with
 |done a=>simp[World.ask]
 |ask what range k ih=>
  simp only[World.ask]
  split
  ·exact ih _ _
  ·exact Nat.le_trans (Nat.le_succ _) (ih _ {w with drawn:=w.drawn+1})
theorem Zl1(w:World)(c:Sys):w.drawn≤(w.sys c).2.drawn:=by
 have h:=Znl (Kernel.perform c w.os) w
 unfold World.sys
 split
 ·exact Nat.le_refl _
 ·rename_i h2;rw[h2] at h;exact h
theorem ZdC(w:World)(a:Addr)(n:Nat):(w.freeze a n).drawn=w.drawn:=by
 unfold World.freeze;split<;>rfl
theorem ZcB{p:Program}{w w':World}{a:Addr}{v:Value}{b:Bool}{l:List Addr}(h:w.farStore p a v b=.ok (w',l)):w'.drawn=w.drawn:=by
 unfold World.farStore at h
 split at h
 ·split at h
  ·rename_i r hr
   simp only[Except.ok.injEq] at h
   subst h
   unfold World.viewStore at hr
   simp only[bind,Except.bind,pure,Except.pure] at hr
   repeat' split at hr
   all_goals first|(cases hr;done)|(simp only[Except.ok.injEq,Prod.mk.injEq] at hr;rw[←hr.1])
  ·cases h
 ·cases h
theorem Zjf{α:Type}(p:Program)(s:Sem α)(w:World):Rge w.drawn (s.run p w):=by
 induction s generalizing w with
 |pure a=>simp[Sem.run,Rge]
 |load m a k ih=>
  simp only[Sem.run]
  split
  ·exact ih _ _
  ·split
   ·exact ih _ _
   ·simp[Rge]
 |store m a v k ih=>
  cases v
  all_goals
   simp only[Sem.run]
   try (simp only[Rge];exact Nat.le_refl _)
   try (
    split
    ·split
     ·simp[Rge]
     ·exact ih _
    ·split
     ·rename_i w' _ hf;have:=ih w';rw[ZcB hf] at this;exact this
     ·simp[Rge])
 |new o k ih=>simp only[Sem.run];exact ih _ _
 |shape r k ih=>simp only[Sem.run];exact ih _ _
 |freeze a n k ih=>simp only[Sem.run];have:=ih (w.freeze a n);rw[ZdC] at this;exact this
 |frozen a k ih=>simp only[Sem.run];exact ih _ _
 |getObj r k ih=>
  simp only[Sem.run]
  split
  ·simp[Rge]
  ·exact ih _ _
  ·simp[Rge]
 |setObj r o k ih=>
  simp only[Sem.run]
  split
  ·simp[Rge]
  ·exact ih _
  ·simp[Rge]
 |choose q k ih=>
  simp only[Sem.run]
  split
  ·exact ih _ _
  ·have:=ih (q.cut (w.tape w.drawn q)) {w with drawn:=w.drawn+1}
   revert this
   generalize Sem.run p _ _=r
   cases r<;>simp[Rge]<;>omega
 |sys c k ih=>
  simp only[Sem.run]
  have h1:=Zl1 w c
  have:=ih (w.sys c).1 (w.sys c).2
  revert this
  generalize Sem.run p _ _=r
  cases r<;>simp[Rge]<;>omega
 |program k ih=>simp only[Sem.run];exact ih _ _
 |mark m k ih=>simp only[Sem.run];exact ih _
 |halt h=>simp[Sem.run,Rge]
theorem Zfp{α:Type}(p:Program)(s:Sem α)(w:World)(es:Array Event):Rge w.drawn (s.runT p w es).1:=by
 induction s generalizing w es with
 |pure a=>simp[Sem.runT,Rge]
 |load m a k ih=>
  simp only[Sem.runT]
  split
  ·exact ih _ _ _
  ·split
   ·exact ih _ _ _
   ·simp[Rge]
 |store m a v k ih=>
  cases v
  all_goals
   simp only[Sem.runT]
   try (simp only[Rge];exact Nat.le_refl _)
   try (
    split
    ·split
     ·simp[Rge]
     ·exact ih _ _
    ·split
     ·rename_i w' l hf;have:=ih w' (es++l.toArray.map (⟨.cell ·, true,m== .atomic⟩));rw[ZcB hf] at this;exact this
     ·simp[Rge])
 |new o k ih=>simp only[Sem.runT];exact ih _ _ _
 |shape r k ih=>simp only[Sem.runT];exact ih _ _ _
 |freeze a n k ih=>simp only[Sem.runT];have:=ih (w.freeze a n) es;rw[ZdC] at this;exact this
 |frozen a k ih=>simp only[Sem.runT];exact ih _ _ _
 |getObj r k ih=>
  simp only[Sem.runT]
  split
  ·simp[Rge]
  ·exact ih _ _ _
  ·simp[Rge]
 |setObj r o k ih=>
  simp only[Sem.runT]
  split
  ·simp[Rge]
  ·exact ih _ _
  ·simp[Rge]
 |choose q k ih=>
  simp only[Sem.runT]
  split
  ·exact ih _ _ _
  ·have:=ih (q.cut (w.tape w.drawn q)) {w with drawn:=w.drawn+1} es
   revert this
   generalize Sem.runT p _ _ _=r
   obtain⟨r,_⟩:=r
   cases r<;>simp[Rge]<;>omega
 |sys c k ih=>
  simp only[Sem.runT]
  have h1:=Zl1 w c
  have:=ih (w.sys c).1 (w.sys c).2 (es.push ⟨.output,true,false⟩)
  revert this
  generalize Sem.runT p _ _ _=r
  obtain⟨r,_⟩:=r
  cases r<;>simp[Rge]<;>omega
 |program k ih=>simp only[Sem.runT];exact ih _ _ _
 |mark m k ih=>simp only[Sem.runT];exact ih _ _
 |halt h=>simp[Sem.runT,Rge]
theorem Za8{α:Type}{p:Program}{s:Sem α}{w w':World}{a:α}{d:Nat}(h:d≤w.drawn)(e:s.run p w=.ok a w'):d≤w'.drawn:=by
 have:=Zjf p s w;rw[e] at this;exact Nat.le_trans h this
theorem ZkL{α:Type}{p:Program}{s:Sem α}{w w':World}{a:Halt}{d:Nat}(h:d≤w.drawn)(e:s.run p w=.halt a w'):d≤w'.drawn:=by
 have:=Zjf p s w;rw[e] at this;exact Nat.le_trans h this
theorem ZbB{α:Type}{p:Program}{s:Sem α}{w w':World}{a:α}{d:Nat}{es es':Array Event}(h:d≤w.drawn)(e:s.runT p w es=(.ok a w',es')):d≤w'.drawn:=by
 have:=Zfp p s w es;rw[e] at this;exact Nat.le_trans h this
theorem Zeg{α:Type}{p:Program}{s:Sem α}{w w':World}{a:Halt}{d:Nat}{es es':Array Event}(h:d≤w.drawn)(e:s.runT p w es=(.halt a w',es')):d≤w'.drawn:=by
 have:=Zfp p s w es;rw[e] at this;exact Nat.le_trans h this
def GOk(d:Nat):GStep→Prop
 | .go _ w _=>d≤w.drawn
 | .comm _ _ _ _ w _=>d≤w.drawn
 | .spawn _ _ w _=>d≤w.drawn
 | .count _ w _=>d≤w.drawn
 | .timer _ _ w _=>d≤w.drawn
 | .alone _ _ w _=>d≤w.drawn
 | .newcoro _ _ _ w _=>d≤w.drawn
 | .coroswitch _ _ _ w _=>d≤w.drawn
 | .collect _ w _=>d≤w.drawn
 | .watch _ w _=>d≤w.drawn
 | .ended .. =>True
theorem GOk.ite{d:Nat}{c:Prop}[Decidable c]{a b:GStep}(ha:GOk d a)(hb:GOk d b):GOk d (if c then a else b):=by
 split
 ·exact ha
 ·exact hb
theorem GOk.after{d:Nat}{es:Array Event}{s:GStep}(h:GOk d s):GOk d (GStep.after es s):=by
 cases s<;>exact h
def SOk(d:Nat):Stepped→Prop
 | .next m=>d≤m.world.drawn
 | .ended .. =>True
section
variable {p:Program} {fr:Frame} {callers:List Frame} {dying:Option Dying} {w:World} {d:Nat}
theorem ZkM{a:List _root_.ByteArray}{m:String}{b:Bool}(h:d≤w.drawn):GOk d (dieOf fr a m b w):=h
theorem ZcL{m:String}(h:d≤w.drawn):GOk d (endThrow fr m w):=h
theorem ZcC{v:Value}(h:d≤w.drawn):GOk d (endPrinting p fr v w):=by
 unfold endPrinting
 dsimp only
 split
 ·exact h
 ·exact True.intro
theorem Zeh{m:String}(h:d≤w.drawn):GOk d (endFatal p fr callers dying m w):=by
 unfold endFatal
 dsimp only
 split
 ·exact ZkM (Za8 h (by assumption))
 ·exact True.intro
 ·exact True.intro
theorem Zif{n:Nat}{t:_root_.ByteArray}{o:Outcome}:GOk d (endWith w n t o):=by
 unfold endWith
 dsimp only
 split
 ·split<;>exact True.intro
 ·exact True.intro
 ·exact True.intro
theorem Zig{y:Dying}{f:Fatal}(h:d≤w.drawn):GOk d (writeOn p fr y f w):=by
 unfold writeOn
 dsimp only
 split
 ·exact True.intro
 ·split
  ·exact ZbB h (by assumption)
  ·exact Zeg h (by assumption)
  ·exact True.intro
  ·exact True.intro
theorem Znm{y:Dying}(h:d≤w.drawn):GOk d (die p fr y w):=by
 unfold die
 dsimp only
 split
 ·exact Zig h
 ·split
  ·split
   ·exact h
   ·exact Zif
  ·split
   ·exact h
   ·split
    ·exact Za8 h (by assumption)
    ·exact True.intro
   ·refine GOk.after ?_
    split
    ·exact ZbB h (Prod.ext (by assumption) rfl)
    ·exact ZbB h (Prod.ext (by assumption) rfl)
    ·exact True.intro
    ·exact ZcC (Zeg h (Prod.ext (by assumption) rfl))
    ·exact True.intro
   ·exact True.intro
theorem Zbm{main:Bool}{v:Value}(h:d≤w.drawn):GOk d (doReturn p main fr callers dying v w):=by
 unfold doReturn
 dsimp only
 repeat' split
 all_goals first|exact h|exact True.intro
theorem Zei{x:Deferred}(h:d≤w.drawn):GOk d (callDeferred p fr callers dying x w):=by
 unfold callDeferred
 dsimp only
 refine GOk.ite True.intro ?_
 ·refine GOk.after ?_
  have hr:=Zfp p (invoke x.target x.args) w #[]
  generalize (Sem.runT p (invoke x.target x.args) w #[]).fst=r at hr ⊢
  have hk:∀a w',r=.ok a w'→d≤w'.drawn:=fun a w' e=>by rw[e] at hr;exact Nat.le_trans h hr
  have hh:∀a w',r=.halt a w'→d≤w'.drawn:=fun a w' e=>by rw[e] at hr;exact Nat.le_trans h hr
  clear hr
  split
  all_goals first
   |exact True.intro
   |exact hk _ _ rfl
   |exact hh _ _ rfl
   |exact Zeh (hh _ _ rfl)
   |exact ZcL (hh _ _ rfl)
   |(split<;>exact hk _ _ rfl)
theorem Zjg{main:Bool}(h:d≤w.drawn):GOk d (unwind p main fr callers dying w):=by
 unfold unwind
 dsimp only
 split
 ·refine GOk.after ?_
  split
  ·exact ZbB h (Prod.ext (by assumption) rfl)
  ·exact True.intro
 ·exact Zei h
 ·split
  ·exact True.intro
  ·split
   ·exact True.intro
   ·split
    ·exact h
    ·split
     ·split
      ·exact h
      ·split
       ·exact Za8 h (by assumption)
       ·exact True.intro
       ·exact True.intro
     ·split
      ·exact ZcC h
      ·exact True.intro
  ·split
   ·exact Zbm h
   ·refine GOk.after ?_
    split
    ·exact Zbm (ZbB h (Prod.ext (by assumption) rfl))
    ·exact True.intro
    ·exact True.intro
theorem ZkN{g:Nat}(h:d≤w.drawn):GOk d (early p fr callers dying g w):=by
 unfold early
 dsimp only
 repeat' split
 all_goals first
  |exact h
  |exact True.intro
  |(have hq:=Za8 h ‹Sem.run p (choose (Question.early g)) w=Result.ok _ _›; exact hq)
theorem ZdP{s:Sem Next}{listen:Bool}(h:d≤w.drawn):GOk d (stepG.apply p listen fr callers dying s w):=by
 unfold stepG.apply
 dsimp only
 have hr:Rge w.drawn (if listen=true then s.runT p w #[] else(s.run p w,#[])).fst:=by
  split
  ·exact Zfp p s w #[]
  ·exact Zjf p s w
 generalize (if listen=true then s.runT p w #[] else(s.run p w,#[]))=r0 at hr ⊢
 obtain⟨r,es⟩:=r0
 dsimp only at hr ⊢
 refine GOk.after ?_
 have hk:∀a w',r=.ok a w'→d≤w'.drawn:=fun a w' e=>by rw[e] at hr;exact Nat.le_trans h hr
 have hh:∀a w',r=.halt a w'→d≤w'.drawn:=fun a w' e=>by rw[e] at hr;exact Nat.le_trans h hr
 clear hr
 split
 all_goals first
  |exact True.intro
  |exact hk _ _ rfl
  |exact hh _ _ rfl
  |exact Zeh (hh _ _ rfl)
  |exact ZcL (hh _ _ rfl)
  |exact ZkN (hh _ _ rfl)
  |(split<;>exact hk _ _ rfl)
  |exact GOk.ite (ZcL (hk _ _ rfl)) (hk _ _ rfl)
theorem Zmr{listen:Bool}(h:d≤w.drawn):GOk d (stepG.oper p listen fr callers dying w):=by
 unfold stepG.oper
 split
 ·exact True.intro
 ·split<;>exact ZdP h
theorem Zjh{α:Type}{o:Option α}{a:GStep}{f:α→GStep}(ha:GOk d a)(hf:∀x,GOk d (f x)):GOk d (o.elim a f):=by
 cases o
 ·exact ha
 ·exact hf _
theorem Zms{main listen:Bool}(h:d≤w.drawn):GOk d (stepG.exec p main listen fr callers dying w):=by
 unfold stepG.exec
 dsimp only
 split
 case h_1=>(split;exact GOk.ite (by assumption) True.intro;refine GOk.after ?_;split;exact Zbm (ZbB (by assumption) (Prod.ext (by assumption) rfl));exact True.intro)
 case h_2=>(split;exact GOk.ite (by assumption) True.intro;refine GOk.after ?_;split;exact Zbm (ZbB (by assumption) (Prod.ext (by assumption) rfl));exact True.intro)
 all_goals first
  |exact h
  |exact True.intro
  |exact ZdP h
  |exact GOk.ite (Zmr h) h
  |exact Zjh True.intro (fun _=>ZdP h)
  |(refine Zjh ?_ (fun _=>h);(split;exact GOk.ite (by assumption) True.intro;refine GOk.after ?_;split;exact Zbm (ZbB (by assumption) (Prod.ext (by assumption) rfl));exact True.intro))
  |(split;exact h;exact True.intro)
  |(split;exact h;split;exact Za8 h (by assumption);exact True.intro)
  |(refine GOk.after ?_;split;exact ZdP (ZbB h (Prod.ext (by assumption) rfl));exact True.intro)
  |(refine GOk.after ?_;split;exact ZbB h (Prod.ext (by assumption) rfl);exact Zeg h (Prod.ext (by assumption) rfl);exact True.intro)
  |skip
theorem ZkO{main listen:Bool}{g:Goroutine}(h:d≤w.drawn):GOk d (stepG p main g w listen):=by
 obtain⟨fr,callers,status,dying,offers⟩:=g
 unfold stepG
 dsimp only
 split
 ·exact Znm h
 ·exact Zms h
 ·exact Zjg h
theorem SOk.ite{c:Prop}[Decidable c]{a b:Stepped}(ha:SOk d a)(hb:SOk d b):SOk d (if c then a else b):=by
 split
 ·exact ha
 ·exact hb
theorem ZeL{rest:Rest}{gs:Array Goroutine}{i:Nat}{g:Goroutine}{cases:Array CommCase}{b:Bool}{sh:CommShape}(h:d≤w.drawn):SOk d (communicate p rest gs i g cases b sh w).1:=by
 unfold communicate
 dsimp only
 split
 ·exact True.intro
 split
 ·split
  ·split
   ·rename_i w' hw
    show d≤w'.drawn
    unfold waitingAt at hw
    repeat' split at hw
    all_goals first|(cases hw;done)|(simp only[Option.some.injEq] at hw;rw[←hw];exact h)
   ·exact True.intro
  ·exact h
 ·split
  ·exact True.intro
  ·rename_i hr
   have h1:=Za8 h hr
   clear hr
   split
   ·split
    ·rename_i hr2
     exact ZkL h1 hr2
    ·exact True.intro
   ·exact h1
   ·exact h1
   ·split
    ·exact h1
    ·split
     ·rename_i hr2
      have hq:=Za8 h1 hr2
      exact hq
     ·exact True.intro
   ·exact h1
   ·exact h1
   ·exact True.intro
theorem ZgN(w:World)(c:Nat):(drain w c).2.drawn=w.drawn:=by
 unfold drain
 split<;>rfl
theorem ZdD(m:Machine)(k:Nat)(t:Timer)(a b:Nat):(retime m k t a b).2.world.drawn=m.world.drawn:=by
 unfold retime
 dsimp only
 split
 ·exact ZgN _ _
 ·rfl
theorem Zfq{m m':Machine}{op:TimerOp}{v:Value}(e:timerOp m op=.ok (v,m')):m'.world.drawn=m.world.drawn:=by
 have named:∀(m0:Machine) (a:Addr) (f:Nat→Timer→Value×Machine) (x:Value×Machine),timerOp.named m a f=.ok x→(∀k t,(f k t).2.world.drawn=m0.world.drawn)→x.2.world.drawn=m0.world.drawn:=by
  intro m0 a f x hx hf
  unfold timerOp.named at hx
  split at hx
  ·simp only[Except.ok.injEq] at hx
   rw[←hx]
   exact hf _ _
  ·cases hx
 unfold timerOp at e
 split at e
 ·split at e
  ·simp only[Except.ok.injEq,Prod.mk.injEq] at e
   rw[←e.2];rfl
  ·split at e
   ·split at e
    ·cases e
    ·simp only[Except.ok.injEq,Prod.mk.injEq] at e
     rw[←e.2]
   ·cases e
 ·exact named m _ _ _ e (fun k t=>ZdD _ _ _ _ _)
 ·split at e
  ·rename_i m1 hm1
   have h1:m1.world.drawn=m.world.drawn:=by
    unfold timerOp.opened at hm1
    repeat' split at hm1
    all_goals first|(cases hm1;done)|(simp only[Option.some.injEq] at hm1;rw[←hm1])
   rw[←h1]
   exact named m1 _ _ _ e (fun k t=>ZdD _ _ _ _ _)
  ·cases e
 ·simp only[Except.ok.injEq,Prod.mk.injEq] at e
  rw[←e.2];rfl
theorem Zji{gs:Array Goroutine}{rest:Rest}(h:d≤w.drawn):SOk d (look p gs rest w):=by
 unfold look
 dsimp only
 split
 ·refine SOk.ite True.intro ?_
  split
  ·exact True.intro
  ·split
   ·rename_i hr
    have hq:=Za8 h hr
    exact hq
   ·exact True.intro
   ·exact True.intro
 ·exact True.intro
theorem ZkP{m:Machine}{k:Nat}(h:d≤m.world.drawn):SOk d (serve p m k):=by
 unfold serve
 dsimp only
 split
 ·exact True.intro
 ·exact h
 ·split
  ·exact True.intro
  ·exact h
theorem ZkQ{m:Machine}{i:Nat}{listen:Bool}(h:d≤m.world.drawn):SOk d (Go.runT p m i listen).1:=by
 unfold Go.runT
 dsimp only
 have hs:=ZkO (p:=p) (main:=i==0) (g:=(m.gs.swapAt! i {(default:Goroutine) with status:=.finished}).1) (listen:=listen) h
 generalize stepG p (i==0) (m.gs.swapAt! i {(default:Goroutine) with status:=.finished}).1 m.world listen=s at hs ⊢
 cases s with
 |ended o w es=>exact True.intro
 |comm g cases b sh w es=>exact ZeL hs
 |go g w es=>exact hs
 |spawn g c w es=>exact hs
 |count g w es=>exact SOk.ite True.intro hs
 |alone g on w es=>exact hs
 |collect g w es=>exact Zji hs
 |watch g w es=>exact hs
 |newcoro g c x w es=>exact hs
 |coroswitch g c ex w es=>
  dsimp only
  split
  ·exact hs
  ·exact hs
  ·exact True.intro
 |timer g op w es=>
  dsimp only
  split
  ·rename_i hm
   exact Nat.le_trans hs (Nat.le_of_eq (Zfq hm).symm)
  ·exact hs
  ·exact True.intro
  ·exact True.intro
def MOk(d:Nat):Move→Prop
 | .goroutine m _=>d≤m.world.drawn
 | .machine s _=>SOk d s
theorem SOk.endWith{n:Nat}{t:_root_.ByteArray}{o:Outcome}:MOk d (match endWith w n t o with
 | .ended o w _=>.machine (.ended o w)
 |_=>.machine (.ended (.stuck "" "") default)):=by
 split<;>exact True.intro
theorem ZgO{m:Machine}{rs:List Nat}(h:d≤m.world.drawn):MOk d (
 match (choose (.sched rs.length)).run p m.world with
 | .halt _ w=>.machine (.ended (.stuck "sched" "") w)
 | .ok k world=>
   if rs.length≤1 then .goroutine {m with world} (rs.getD k 0) else
   match (choose (.extern "sched.slice" 65536)).run p world with
   | .halt _ w=>.machine (.ended (.stuck "sched.slice" "") w)
   | .ok n world=>.goroutine {m with world,rest:={m.rest with slice:=if n=0 then none else some (rs.getD k 0,n)}} (rs.getD k 0)):=by
 split
 ·exact True.intro
 ·rename_i h1
  have h2:=Za8 h h1
  split
  ·exact h2
  ·split
   ·exact True.intro
   ·rename_i h3
    have h4:=Za8 h2 h3
    exact h4
theorem Zfr{m:Machine}(h:d≤m.world.drawn):MOk d (askOn p m):=by
 unfold askOn
 dsimp only
 split
 ·exact True.intro
 ·rename_i h1
  have h2:=Za8 h h1
  split
  ·exact ZkP h2
  ·split
   ·split
    ·exact h2
    ·split
     ·exact h2
     ·exact SOk.endWith
   ·split
    ·exact ZgO (m:={m with world:=_}) h2
    ·split
     ·exact True.intro
     ·rename_i h3
      have h4:=Za8 h2 h3
      exact ZgO (m:={m with world:=_}) h4
     ·rename_i h3
      have h4:=Za8 h2 h3
      exact h4
     ·rename_i h3
      have h4:=Za8 h2 h3
      exact ZgO (m:=Machine.advanceTo {m with world:=_} _) h4
theorem Zl2{m:Machine}(h:d≤m.world.drawn):MOk d (Go.ask p m):=by
 unfold Go.ask
 split
 ·split
  ·exact True.intro
  ·rename_i h1
   have h2:=Za8 h h1
   have h3:=Zji (p:=p) (gs:=m.gs) (rest:=m.rest) h2
   split
   ·rename_i h4
    rw[h4] at h3
    exact Zfr h3
   ·exact h3
  ·rename_i h1
   have h2:=Za8 h h1
   exact Zfr h2
 ·exact Zfr h
theorem Zmt{m:Machine}(h:d≤m.world.drawn):MOk d (move p m):=by
 unfold move
 split
 ·split
  ·exact h
  ·exact True.intro
 ·split
  ·split
   ·exact h
   ·exact Zl2 h
  ·exact Zl2 h
theorem Zmu{m:Machine}(h:d≤m.world.drawn):SOk d (step p m):=by
 unfold step stepT
 have hm:=Zmt (p:=p) h
 split
 ·rename_i e
  rw[e] at hm
  exact ZkQ hm
 ·rename_i e
  rw[e] at hm
  exact hm
theorem Zmv{n:Nat}{m:Machine}(h:d≤m.world.drawn):SOk d (runN p n m):=by
 induction n generalizing m with
 |zero=>exact h
 |succ n ih=>
  unfold runN
  have hs:=Zmu (p:=p) h
  split
  ·rename_i e
   rw[e] at hs
   exact ih hs
  ·exact hs
end
theorem Zej{P:Program}{m m':Machine}(h:Steps P m m'):m.world.drawn≤m'.world.drawn:=by
 obtain⟨n,hn⟩:=h
 have:=Zmv (p:=P) (n:=n) (Nat.le_refl m.world.drawn)
 rw[hn] at this
 exact this
theorem ZgP{P:Program}{f:FuncId}{args:Array Value}{w:World}{R:Ending→World→Prop}(h:Calls P f args w R)(hr:∀w',¬R .outgrown w'):Calls P f args w fun e w'=>R e w'∧w.drawn≤w'.drawn:=by
 intro cs
 obtain⟨e,w',fr,h1,h2,h3,h4⟩:=h cs
 refine⟨e,w',fr,⟨h1,?_⟩,h2,h3,h4⟩
 cases e with
 |returned v=>exact Zej h2
 |panicked c=>exact Zej h2
 |outgrown=>exact absurd h1 (hr w')
open Go.RowKit in
theorem Zfs{w w':World}(h:Below w.heap.size w w')(hd:w.drawn≤w'.drawn):∃q os,w'=Sort.grow (w.drewN q) os:=by
 refine⟨w'.drawn-w.drawn,w'.heap.extract w.heap.size w'.heap.size,?_⟩
 have h1:w'.heap=w.heap++w'.heap.extract w.heap.size w'.heap.size:=by
  apply Array.ext_getElem?
  intro i
  rw[Array.getElem?_append]
  have hs:=h.size
  split
  ·rename_i hi
   exact h.block i hi
  ·rename_i hi
   rw[Array.getElem?_extract]
   by_cases hj:i<w'.heap.size
   ·have:w.heap.size+(i-w.heap.size)=i:=by omega
    rw[this];simp;omega
   ·rw[Array.getElem?_eq_none (by omega)]
    split
    ·rw[Array.getElem?_eq_none (by omega)]
    ·rfl
 cases w' with
 |mk heap tape drawn os output=>
  have h2:=h.os;have h3:=h.tape;have h4:=h.output
  simp only at h1 h2 h3 h4 hd
  subst h2;subst h3;subst h4
  unfold Sort.grow World.drewN
  simp only[World.mk.injEq,true_and,and_true]
  exact⟨h1,by omega⟩
end
section
open Go.RowKit Go.Shelf Go.Sort
def cmpI(rs:List Int)(i k:Nat):Int:=if sgnI (rs.getD k 0-rs.getD i 0)≠0 then sgnI (rs.getD k 0-rs.getD i 0) else Lib.compareInt i k
def encF(n:Nat)(i:Fin n):Value:=.int .i64 (i.val:Nat)
def cmpF(rs:List Int)(n:Nat)(x y:Fin n):Int:=cmpI rs x.val y.val
theorem ltF(rs:List Int)(n:Nat)(x y:Fin n):ltOf (cmpF rs n) x y= !befB rs y.val x.val:=by
 unfold ltOf cmpF cmpI befB sgnI Lib.compareInt
 generalize rs.getD x.val 0=a
 generalize rs.getD y.val 0=b
 rw[Bool.eq_iff_iff]
 simp only[decide_eq_true_eq,Bool.not_eq_true',decide_eq_false_iff_not]
 repeat' split
 all_goals omega
theorem Zn5(rs:List Int)(n:Nat):SWO (ltOf (cmpF rs n)) where
 irrefl x:=by rw[ltF];unfold befB;simp
 trans x y z h1 h2:=by rw[ltF] at *; unfold befB at *; simp only[Bool.not_eq_true',decide_eq_false_iff_not] at *; omega
 ntrans x y z h1 h2:=by rw[ltF] at *; unfold befB at *; simp only[Bool.not_eq_false',decide_eq_true_eq] at *; omega
theorem Zn6(rs:List Int)(n:Nat)(x y:Fin n)(h1:ltOf (cmpF rs n) x y=false)(h2:ltOf (cmpF rs n) y x=false):x=y:=by
 rw[ltF] at*
 unfold befB at*
 simp only[Bool.not_eq_false',decide_eq_true_eq] at*
 apply Fin.ext
 omega
def allF(n:Nat):Array (Fin n):=(List.finRange n).toArray
theorem Zek(n:Nat):(allF n).size=n:=by simp[allF]
theorem ZkR(n:Nat):(allF n).toList.map Fin.val=List.range n:=by
 unfold allF
 refine List.ext_getElem (by simp) fun i h1 h2=> ?_
 simp
theorem Zih(rs:List Int)(n:Nat)(hn:rs.length=n):((allF n).toList.mergeSort fun x y=> !ltOf (cmpF rs n) y x).map Fin.val=ordL rs:=by
 unfold ordL
 rw[List.map_mergeSort (s:=befB rs),ZkR,hn]
 intro a _ b _
 rw[ltF];simp
def idxV(l:List Nat):Array Value:=(l.map fun k=>Value.int .i64 (k:Nat)).toArray
theorem Zjj(n:Nat)[Inhabited (Fin n)]{w:World}{p:Nat}{T:TypeId}(hB:BlkB w p (idxV (List.range n)) T):Holds (encF n) w p 0 (allF n):=by
 intro j hj
 rw[Zek] at hj
 refine⟨?_,hB.frozen _⟩
 rw[Nat.zero_add]
 refine hB.cell j ?_
 have h1:(allF n)[j]! =⟨j,hj⟩:=by
  rw[getElem!_pos _ j (by rw[Zek];exact hj)]
  simp[allF]
 rw[h1]
 simp[idxV,encF,hj]
theorem Zf1(n:Nat)[Inhabited (Fin n)](cur:Array Value)(l:List (Fin n))(hc:cur.size=n)(hl:l.length=n):putCells (encF n) 0 l.toArray cur=idxV (l.map Fin.val):=by
 apply Array.ext_getElem?
 intro k
 simp only[putCells,Array.getElem?_mapIdx,idxV,List.getElem?_toArray,List.getElem?_map,List.map_map]
 by_cases hk:k<n
 ·have h1:cur[k]?=some cur[k]:=Array.getElem?_eq_getElem (by omega)
  rw[h1]
  have h2:l[k]?=some l[k]:=List.getElem?_eq_getElem (by omega)
  simp only[Option.map_some,Nat.zero_le,true_and,Nat.zero_add,Nat.sub_zero,h2]
  rw[if_pos (by simp;omega)]
  have h3:l.toArray[k]! =l[k]:=by rw[getElem!_pos _ k (by simp;omega)];simp
  rw[h3]
  rfl
 ·rw[Array.getElem?_eq_none (by omega),List.getElem?_eq_none (by omega)]
  rfl
theorem Zc1(n:Nat)[Inhabited (Fin n)]{w:World}{g m:Nat}{os:Array Obj}(d:Array (Fin n)):w.grownBy (sortWorld (encF n) w g 0 m d os) (some g):=by
 refine⟨rfl,rfl,rfl,by simp[sortWorld],fun k hk hne=> ?_⟩
 unfold sortWorld
 rw[heap_grow_old _ _ (by simpa using hk)]
 have:g≠k:=fun e=>hne (by rw[e])
 simp[putRow,mapBlock,Sort.ahead,Array.getElem?_modify,this]
theorem Zjk(n:Nat)[Inhabited (Fin n)]{w:World}{p m:Nat}{T:TypeId}{cur:Array Value}{os:Array Obj}(l:List (Fin n))(hB:BlkB w p cur T)(hc:cur.size=n)(hl:l.length=n):BlkB (sortWorld (encF n) w p 0 m l.toArray os) p (idxV (l.map Fin.val)) T:=by
 unfold BlkB sortWorld
 have hg:=hB.lt
 rw[heap_grow_old _ _ (by simpa using hg)]
 unfold BlkB at hB
 simp only[putRow,mapBlock,Sort.ahead,Array.getElem?_modify,hB,onCells,if_pos,Option.map_some]
 rw[Zf1 n cur l hc hl]
theorem ZdJ{w w':World}{B p:Nat}(h:w.grownBy w' (some p))(hB:B≤p)(hs:B≤w.heap.size):Below B w w':=
 ⟨h.os,h.tape,h.output,h.size,fun k hk=>h.block k (by omega) (fun e=>by injection e with e;omega)⟩
theorem ZkS{P:Program}{ρ:Ren}(L:SlLaysF.n6 P ρ)(g:Nat)(cb:Array Value)(rs:List Int)(n p cap:Nat)(W:World)(T:TypeId)(hn:rs.length=n)(h0:0<n)(h1:n<4611686018427387904)
 (eg:∀args w,(callFunc g args).run P w=.ok (.enter g args) w) (hB:BlkB W p (idxV (List.range n)) T)
 (hcmp:∀W',W.grownBy W' (some p)→∀x y:Nat,x<n→y<n→Calls P g (#[.int .i64 x,.int .i64 y]++cb) W' fun e w'=>e=.returned (.int .i64 (cmpI rs x y))∧Below W'.heap.size W' w'):
 Calls P (ρ.f 6) #[.slice (some ⟨p,0,none⟩) n cap,.func (.func g) #[] cb] W fun e w'=>e=.returned (.tuple #[])∧W.grownBy w' (some p)∧BlkB w' p (idxV (ordL rs)) T:=by
 obtain⟨m,rfl⟩:∃m,n=m+1:=⟨n-1,by omega⟩
 have hsz:=Zek (m+1)
 have h:=Any.slices_SortFunc_total L (encF (m+1)) (fun _=>rfl) (cmpF rs (m+1)) (Zn5 rs (m+1)) g cb p 0 cap (allF (m+1)) W eg
  (fun q os dk _ x y=>by
    have h2:=ZgP (hcmp (sortWorld (encF (m+1)) W p 0 q dk os) (Zc1 (m+1) dk) x.val y.val x.isLt y.isLt) (fun w' hw=>by cases hw.1)
    refine h2.mono fun e w' h3=>⟨h3.1.1,Zfs h3.1.2 h3.2⟩)
  (Zjj (m+1) hB) hB.lt (by rw[hsz];exact h1) (Zn6 rs (m+1))
 rw[hsz] at h
 refine h.mono ?_
 rintro e w' ⟨he,q,os,rfl⟩
 refine⟨he,Zc1 (m+1) _,?_⟩
 have h3:=Zjk (m+1) (w:=W) (p:=p) (m:=q) (T:=T) (os:=os) ((allF (m+1)).toList.mergeSort fun x y=> !ltOf (cmpF rs (m+1)) y x) hB (by simp[idxV]) (by simp[hsz])
 rw[Zih rs (m+1) hn] at h3
 exact h3
section
variable {w W W':World} {p i:Nat} {cs ds:Array Value} {T:TypeId} {bs:List (Nat×Array Value×TypeId)}
theorem Kp.grown(h:Kp w bs W)(hg:W.grownBy W' (some p))(hb:bs[i]?=some (p,cs,T))(hd:BlkB W' p ds T):Kp w (bs.set i (p,ds,T)) W':=by
 have hm:(bs.set i (p,ds,T)).map (·.1)=bs.map (·.1):=by
  refine List.ext_getElem? fun k=> ?_
  rw[List.getElem?_map,List.getElem?_map,List.getElem?_set]
  split
  ·rename_i e
   subst e
   rw[hb]
   split
   ·rfl
   ·rename_i e2;exact absurd (List.getElem?_eq_some_iff.1 hb).1 e2
  ·rfl
 refine⟨h.pow,h.bl.trans (ZdJ hg (h.old i hb) h.bl.size),?_,by rw[hm];exact h.ord,?_⟩
 ·intro b hx
  rcases List.mem_or_eq_of_mem_set hx with hx|rfl
  ·exact h.own b hx
  ·exact h.old i hb
 ·intro b hx
  obtain⟨k,hk⟩:=List.getElem?_of_mem hx
  rw[List.getElem?_set] at hk
  split at hk
  ·split at hk
   ·injection hk with hk
    subst hk
    exact hd
   ·cases hk
  ·rename_i hik
   obtain⟨q,es,U⟩:=b
   have hq:=h.at_ k hk
   have hne:=h.ne k i hk hb (fun e=>hik e.symm)
   exact(hg.block q hq.lt (fun e=>hne (by injection e))).trans hq
end
end
section
open Go.RowKit Go.Shelf
theorem Znn(a b:Int)(bl:Nat)(w:World)(h0:w.cell? ⟨bl,0,none⟩=some (.int .i64 a))(h1:w.cell? ⟨bl,1,none⟩=some (.int .i64 b)):Calls Tryz.prog 241 #[.slice (some ⟨bl,0,none⟩) 2 2] w fun e w'=>e=.returned (.int .i64 (if a≠0 then a else b))∧Below w.heap.size w w':=by
 have HR:=hdz (show ∀r:Int,(a≠0→r=a)→(a=0→r=b)→(if a≠0 then a else b)=r by
  intro r h1 h2
  by_cases h:a=0
  ·rw[if_neg (by simp[h]),h2 h]
  ·rw[if_pos h,h1 h])
 generalize (if a≠0 then a else b)=res at*
 have HB:=hdz (Below.refl w.heap.size w)
 go_enter Tryz.func241,Tryz.ntmps241
 go_wp2_with fail
 go_loop [8] (fun i=>∃k:Nat,k≤2∧i=.int .i64 k∧Hid (1≤k→a=0)∧Hid (2≤k→b=0)) (fun i=>2-(intOf i).toNat)
 case atStart=>exact⟨0,by omega,rfl,fun h=>by omega,fun h=>by omega⟩
 case round=>
  obtain⟨k,hk,rfl,HA,HBB⟩:=hrel
  by_cases hlt:k<2
  ·obtain rfl|rfl:k=0∨k=1:=by omega
   ·by_cases ha:a=0
    ·have hx:(a !=0)=false:=by simp[ha]
     have HA0:=hdz ha
     clear ha HA HBB hk hlt
     go_wp2
     go_round
     case rel=>exact⟨1,by omega,by go_num,fun _=>HA0.out,fun h=>by omega⟩
     case measure=>simp[intOf]
    ·have hx:(a !=0)=true:=by simp[ha]
     have HE:=hdz (HR.out a (fun _=>rfl) (fun h=>absurd h ha))
     clear ha HA HBB hk hlt
     go_wp2
     go_ret
     exact⟨Zad HE.out.symm,HB.out⟩
   ·have HA0:=hdz (HA.out (by omega))
    by_cases hb:b=0
    ·have hx:(b !=0)=false:=by simp[hb]
     have HB0:=hdz hb
     clear hb HA HBB hk hlt
     go_wp2
     go_round
     case rel=>exact⟨2,by omega,by go_num,fun _=>HA0.out,fun _=>HB0.out⟩
     case measure=>simp[intOf]
    ·have hx:(b !=0)=true:=by simp[hb]
     have HE:=hdz (HR.out b (fun h=>absurd HA0.out h) (fun _=>rfl))
     clear hb HA HBB hk hlt
     go_wp2
     go_ret
     exact⟨Zad HE.out.symm,HB.out⟩
  ·obtain rfl:k=2:=by omega
   have HE:=hdz (HR.out 0 (fun h=>absurd (HA.out (by omega)) h) (fun _=>(HBB.out (by omega)).symm))
   clear HA HBB hk hlt
   go_wp2
   go_ret
   exact⟨Zad HE.out.symm,HB.out⟩
theorem Zno(a b:Int)(w:World):Calls Tryz.prog 241 #[.slice (some ⟨w.heap.size,0,none⟩) 2 2] (w.alloc (.cells #[.int .i64 a,.int .i64 b] 3)) fun e w'=>e=.returned (.int .i64 (if a≠0 then a else b))∧Below w.heap.size w w':=by
 have hb:=heap_alloc_new w (.cells #[.int .i64 a,.int .i64 b] 3)
 refine(Znn a b w.heap.size _ (cell_of_row _ _ 0 _ _ _ hb) (cell_of_row _ _ 1 _ _ _ hb)).mono ?_
 rintro e w' ⟨he,h⟩
 exact⟨he,((Below.refl w.heap.size w).alloc (Nat.le_refl _) _).trans (h.mono (by simp))⟩
theorem ZkT(rs:List Int)(n R X:Nat)(i k:Nat)(hi:i<n)(hk:k<n)(_hn:n≤100000)(W:World)(hX:W.cell? ⟨X,0,none⟩=some (.slice (some ⟨R,0,none⟩) n n))(hR:∀j,j<n→W.cell? ⟨R,j,none⟩=some (.string ⟨(txtL (rs.getD j 0)).toArray⟩))(hl:∀j,(txtL (rs.getD j 0)).length≤100000):
 Calls Tryz.prog 240 (#[.int .i64 i,.int .i64 k]++#[.pointer (some ⟨X,0,none⟩)]) W fun e w'=>e=.returned (.int .i64 (cmpI rs i k))∧Below W.heap.size W w':=by
 have HCM:=hdz (fun w=>Zar (txtL (rs.getD k 0)) (txtL (rs.getD i 0)) w (hl k) (hl i))
 rw[Zaa,Zaa] at HCM
 have HCC:=hdz (fun w=>Tryz.cmp_Compare_int i k w)
 have HRE:=hdz (show(if sgnI (rs.getD k 0-rs.getD i 0)≠0 then sgnI (rs.getD k 0-rs.getD i 0) else Lib.compareInt i k)=cmpI rs i k from rfl)
 have HON:=hdz (fun w=>Zno (sgnI (rs.getD k 0-rs.getD i 0)) (Lib.compareInt i k) w)
 rw[HRE.out] at HON
 generalize cmpI rs i k=res at*
 have z1:=hR i hi
 have z2:=hR k hk
 have HZ:=hdz (show ∀w',Below W.heap.size W w'→w'.cell? ⟨X,0,none⟩=some (.slice (some ⟨R,0,none⟩) n n)∧w'.cell? ⟨R,i,none⟩=some (.string ⟨(txtL (rs.getD i 0)).toArray⟩)∧w'.cell? ⟨R,k,none⟩=some (.string ⟨(txtL (rs.getD k 0)).toArray⟩) from
  fun w' hb=>⟨(hb.cell (World.block_lt_of_cell? W _ hX)).trans hX,(hb.cell (World.block_lt_of_cell? W _ z1)).trans z1,(hb.cell (World.block_lt_of_cell? W _ z2)).trans z2⟩)
 generalize sgnI (rs.getD k 0-rs.getD i 0)=aa at*
 generalize Lib.compareInt (i:Int) (k:Int)=bb at*
 generalize txtL (rs.getD i 0)=ti at*
 generalize txtL (rs.getD k 0)=tk at*
 clear hR hl HRE
 have HB:=hdz (Below.refl W.heap.size W)
 have i1:(0:Int)≤(i:Int):=by omega
 have i2:(i:Int)<(n:Int):=by omega
 have k1:(0:Int)≤(k:Int):=by omega
 have k2:(k:Int)<(n:Int):=by omega
 show Calls _ _ #[.int .i64 i,.int .i64 k,.pointer (some ⟨X,0,none⟩)] _ _
 go_enter Tryz.func240,Tryz.ntmps240
 go_upto_region 1 with (fail)
 go_region_held3 (fun w'=>w'.cell? ⟨X,0,none⟩=some (.slice (some ⟨R,0,none⟩) n n)∧w'.cell? ⟨R,i,none⟩=some (.string ⟨ti.toArray⟩)∧w'.cell? ⟨R,k,none⟩=some (.string ⟨tk.toArray⟩))
  (first
    |exact HZ.out _ hz2
    |exact HZ.out _ hz
    |exact HZ.out _ (HB.out.alloc (Nat.le_refl _) _)
    |go_keep)
  (first
    |(go_at_call 58;refine(HCM.out _).mono ?_;rintro e w1 ⟨rfl,hb1⟩;have hz:Below W.heap.size W w1:=HB.out.drew.trans hb1)
    |(go_at_call 242;refine(HCC.out _).mono ?_;rintro e w2 ⟨rfl,rfl⟩)
    |(go_at_call 241;refine(HON.out _).mono ?_;rintro e w3 ⟨rfl,hb3⟩;have hz2:Below W.heap.size W w3:=hz.trans (hb3.mono hz.size)))
 all_goals
  go_wp2_with fail
  first|go_ret|skip
  exact⟨rfl,hz2⟩
end
section
open Go.RowKit Go.Shelf
def prtL(a:List UInt8):List UInt8:=if canonL a=[] then[48] else canonL a
theorem Zft(n:Nat):prtL (txtL n)=if n=0 then[48] else digs n:=by
 have e:canonL (txtL n)=digs n:=by rw[Zd1,Zaa];exact Za2 n
 unfold prtL
 rw[e]
 by_cases h:n=0
 ·subst h;rfl
 ·rw[if_neg h,if_neg]
  intro e
  have:=Zhn n h
  rw[e] at this
  simp at this
theorem Zf2(n:Nat)(h:n<100000000):(digs n).length≤9:=by
 have:=Zab (n:=(n:Int)) (L:=8) (by simpa using h)
 rw[Za2] at this
 omega
theorem Zjl(n:Nat)(h:n<100000000):Lib.parseIntB 64 (prtL (txtL n))=.ok (n:Int):=by
 rw[Zft]
 by_cases h0:n=0
 ·subst h0;decide+kernel
 rw[if_neg h0]
 have hd:=ZcS n
 have hl:=Zf2 n h
 have hv:=ZcV n
 obtain⟨b,l,e,h1,h2⟩:=ZcT n h0
 rw[e] at hd hl hv ⊢
 have hb:isDig b=true:=by simp only[List.all_cons,Bool.and_eq_true] at hd;exact hd.1
 have hb2:=(Zao b).1 hb
 have hp:Lib.parseUintB 64 (b::l)=.ok n:=by
  unfold Lib.parseUintB
  rw[if_neg (by simp),ZlX (b::l) 0 hd,hv]
  ·simp
  ·have:10^(b::l).length≤10^9:=Nat.pow_le_pow_right (by omega) hl
   omega
 unfold Lib.parseIntB
 simp only
 rw[if_neg (by omega),hp]
 simp only
 rw[if_neg (by omega),if_neg (by omega),if_neg (by omega)]
theorem Zf3(a:List UInt8)(ha:a.length≤1000000000):Gives 129 #[S a] (S (prtL a)):=by
 intro w hp
 have HC:=hdz (ZbW a w ha)
 have HP:=hdz (show prtL a=if canonL a=[] then[48] else canonL a from rfl)
 generalize prtL a=res at*
 generalize canonL a=t at*
 clear ha hp
 unfold S at*
 by_cases ht:t=[]
 ·subst ht
  rw[if_pos rfl] at HP
  go_enter Tryz.func129,Tryz.ntmps129
  go_wp2_with fail
  refine HC.out.mono ?_
  rintro e w1 ⟨rfl,hb⟩
  go_wp2_with fail
  first|go_ret|skip
  rw[HP.out]
  exact⟨rfl,hb⟩
 ·rw[if_neg ht] at HP
  have hx:(t==[])=false:=beq_false_of_ne ht
  clear ht
  go_enter Tryz.func129,Tryz.ntmps129
  go_wp2_with fail
  refine HC.out.mono ?_
  rintro e w1 ⟨rfl,hb⟩
  go_wp2_with fail
  first|go_ret|skip
  rw[HP.out]
  exact⟨rfl,hb⟩
theorem Zjm(n:Nat)(h:n<100000000):Gives 243 #[S (txtL n)] (.tuple #[.int .i64 n,.bool true]):=by
 intro w hp
 have hl:(txtL n).length≤9:=Zab (n:=(n:Int)) (L:=8) (by simpa using h)
 have HPR:=hdz (Zf3 (txtL n) (by omega))
 have hpl:(prtL (txtL n)).length≤9:=by
  rw[Zft]
  split
  ·simp
  ·exact Zf2 n h
 have HPI:=hdz (fun W=>(Tryz.strconv_ParseInt_10_at64_ok ⟨(prtL (txtL n)).toArray⟩ (by rw[Zag];omega) n (by rw[Zhk];exact Zjl n h) W))
 have H:=hdz (Kp.start hp)
 generalize prtL (txtL n)=t at*
 generalize txtL (n:Int)=a at*
 clear hp hl hpl h
 unfold S at*
 go_enter Tryz.func243,Tryz.ntmps243
 go_wp2_with fail
 refine(HPR.out _ H.out.pw).mono ?_
 rintro e w1 ⟨rfl,hb⟩
 replace H:=hdz (H.out.here hb)
 clear hb
 go_wp2_with fail
 refine(HPI.out _).mono ?_
 rintro e w2 ⟨rfl,hw⟩
 have hb:Below w1.heap.size w1 w2:=by
  rcases hw with rfl|⟨t,rfl⟩
  ·exact Below.refl _ _
  ·exact Lib.bytesWorld_below w1 _ _
 replace H:=hdz (H.out.here hb)
 clear hb hw
 go_wp2_with fail
 first|go_ret2|skip
 exact⟨rfl,H.out.bl⟩
end
end Go.Proofs.YtpnncoinlopndaaGreatDoor
