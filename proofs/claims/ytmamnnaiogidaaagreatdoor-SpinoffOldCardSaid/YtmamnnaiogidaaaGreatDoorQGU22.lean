/- Sx. -/
import Derived.Test.YtmamnnaiogidaaaGreatDoorQGU21
import Derived.Test.YtmamnnaiogidaaaGreatDoorQGU8
import Derived.Shelf.SlSortCmp.NoneTotal
import Derived.Sort.OwnSorted
namespace Go.Proofs.YtmamnnaiogidaaaGreatDoor
section
open Go.RowKit Go.Shelf Go.Sort
def Zjl(rs:List Int)(i k:Nat):Int:=if QO (rs.getD k 0-rs.getD i 0)≠0 then QO (rs.getD k 0-rs.getD i 0) else Lib.compareInt i k
def ZhA(n:Nat)(i:Fin n):Value:=.int .i64 (i.val:Nat)
def Zgz(rs:List Int)(n:Nat)(x y:Fin n):Int:=Zjl rs x.val y.val
theorem ltF(rs:List Int)(n:Nat)(x y:Fin n):ltOf (Zgz rs n) x y= !Zac rs y.val x.val:=by
 unfold ltOf Zgz Zjl Zac QO Lib.compareInt;generalize rs.getD x.val 0=a;generalize rs.getD y.val 0=b;rw[Bool.eq_iff_iff];simp only[decide_eq_true_eq,Bool.not_eq_true',decide_eq_false_iff_not]
 repeat' split
 all_goals omega
theorem ZoK(rs:List Int)(n:Nat):SWO (ltOf (Zgz rs n)) where
 irrefl x:=by rw[ltF];unfold Zac;simp
 trans x y z h1 h2:=by rw[ltF] at *; unfold Zac at *; simp only[Bool.not_eq_true',decide_eq_false_iff_not] at *; omega
 ntrans x y z h1 h2:=by rw[ltF] at *; unfold Zac at *; simp only[Bool.not_eq_false',decide_eq_true_eq] at *; omega
theorem ZoL(rs:List Int)(n:Nat)(x y:Fin n)(h1:ltOf (Zgz rs n) x y=false)(h2:ltOf (Zgz rs n) y x=false):x=y:=by
 rw[ltF] at*
 unfold Zac at*
 simp only[Bool.not_eq_false',decide_eq_true_eq] at*
 apply Fin.ext
 omega
def Zea(n:Nat):Array (Fin n):=(List.finRange n).toArray
theorem Zcd(n:Nat):(Zea n).size=n:=by simp[Zea]
theorem Zlr(n:Nat):(Zea n).toList.map Fin.val=List.range n:=by
 unfold Zea;refine List.ext_getElem (by simp) fun i h1 h2=> ?_
 simp
theorem ZhB(rs:List Int)(n:Nat)(hn:rs.length=n):((Zea n).toList.mergeSort fun x y=> !ltOf (Zgz rs n) y x).map Fin.val=VS rs:=by
 unfold VS;rw[List.map_mergeSort (s:=Zac rs),Zlr,hn];intro a _ b _;rw[ltF];simp
def Zat(l:List Nat):Array Value:=(l.map fun k=>Value.int .i64 (k:Nat)).toArray
theorem Zjm(n:Nat)[Inhabited (Fin n)]{w:World}{p:Nat}{T:TypeId}(hB:BlkB w p (Zat (List.range n)) T):Holds (ZhA n) w p 0 (Zea n):=by
 intro j hj;rw[Zcd] at hj;refine⟨?_,hB.frozen _⟩;rw[Nat.zero_add];refine hB.cell j ?_
 have h1:(Zea n)[j]! =⟨j,hj⟩:=by
  rw[getElem!_pos _ j (by rw[Zcd];exact hj)];simp[Zea]
 rw[h1];simp[Zat,ZhA,hj]
theorem Zfo(n:Nat)[Inhabited (Fin n)](cur:Array Value)(l:List (Fin n))(hc:cur.size=n)(hl:l.length=n):putCells (ZhA n) 0 l.toArray cur=Zat (l.map Fin.val):=by
 apply Array.ext_getElem?
 intro k;simp only[putCells,Array.getElem?_mapIdx,Zat,List.getElem?_toArray,List.getElem?_map,List.map_map]
 by_cases hk:k<n
 ·have h1:cur[k]?=some cur[k]:=Array.getElem?_eq_getElem (by omega);rw[h1];have h2:l[k]?=some l[k]:=List.getElem?_eq_getElem (by omega);simp only[Option.map_some,Nat.zero_le,true_and,Nat.zero_add,Nat.sub_zero,h2];rw[if_pos (by simp;omega)];have h3:l.toArray[k]! =l[k]:=by rw[getElem!_pos _ k (by simp;omega)];simp
  rw[h3];rfl
 ·rw[Array.getElem?_eq_none (by omega),List.getElem?_eq_none (by omega)];rfl
theorem Za6(n:Nat)[Inhabited (Fin n)]{w:World}{g m:Nat}{os:Array Obj}(d:Array (Fin n)):w.grownBy (sortWorld (ZhA n) w g 0 m d os) (some g):=by
 refine⟨rfl,rfl,rfl,by simp[sortWorld],fun k hk hne=> ?_⟩;unfold sortWorld;rw[heap_grow_old _ _ (by simpa using hk)];have:g≠k:=fun e=>hne (by rw[e])
 simp[putRow,mapBlock,Sort.ahead,Array.getElem?_modify,this]
theorem Zjn(n:Nat)[Inhabited (Fin n)]{w:World}{p m:Nat}{T:TypeId}{cur:Array Value}{os:Array Obj}(l:List (Fin n))(hB:BlkB w p cur T)(hc:cur.size=n)(hl:l.length=n):BlkB (sortWorld (ZhA n) w p 0 m l.toArray os) p (Zat (l.map Fin.val)) T:=by
 unfold BlkB sortWorld;have hg:=hB.lt;rw[heap_grow_old _ _ (by simpa using hg)];unfold BlkB at hB;simp only[putRow,mapBlock,Sort.ahead,Array.getElem?_modify,hB,onCells,if_pos,Option.map_some];rw[Zfo n cur l hc hl]
theorem Zce{w w':World}{B p:Nat}(h:w.grownBy w' (some p))(hB:B<=p)(hs:B<=w.1.size):Below B w w':=
 ⟨h.os,h.tape,h.output,h.size,fun k hk=>h.block k (by omega) (fun e=>by injection e with e;omega)⟩
theorem Zls{P:Program}{ρ:Ren}(L:SlLaysF.n6 P ρ)(g:Nat)(cb:Array Value)(rs:List Int)(n p cap:Nat)(W:World)(T:TypeId)(hn:rs.length=n)(h0:0<n)(h1:n<4611686018427387904)
 (eg:∀args w,(callFunc g args).run P w=.ok (.enter g args) w) (hB:BlkB W p (Zat (List.range n)) T)
 (hcmp:∀W',W.grownBy W' (some p)->∀x y:Nat,x<n->y<n->Calls P g (#[.int .i64 x,.int .i64 y]++cb) W' fun e w'=>e=.returned (.int .i64 (Zjl rs x y))/\Below W'.1.size W' w'):
 Calls P (ρ.f 6) #[.slice (some ⟨p,0,none⟩) n cap,.func (.func g) #[] cb] W fun e w'=>e=.returned (.tuple #[])/\W.grownBy w' (some p)/\BlkB w' p (Zat (VS rs)) T:=by
 obtain⟨m,rfl⟩:∃m,n=m+1:=⟨n-1,by omega⟩
 have hsz:=Zcd (m+1)
 have h:=Any.slices_SortFunc_total L (ZhA (m+1)) (fun _=>rfl) (Zgz rs (m+1)) (ZoK rs (m+1)) g cb p 0 cap (Zea (m+1)) W eg
  (fun q os dk _ x y=>by
    have h2:=Zgy (hcmp (sortWorld (ZhA (m+1)) W p 0 q dk os) (Za6 (m+1) dk) x.val y.val x.isLt y.isLt) (fun w' hw=>by cases hw.1);refine h2.mono fun e w' h3=>⟨h3.1.1,Zd9 h3.1.2 h3.2⟩)
  (Zjm (m+1) hB) hB.lt (by rw[hsz];exact h1) (ZoL rs (m+1))
 rw[hsz] at h;refine h.mono ?_;rintro e w' ⟨he,q,os,rfl⟩;refine⟨he,Za6 (m+1) _,?_⟩;have h3:=Zjn (m+1) (w:=W) (p:=p) (m:=q) (T:=T) (os:=os) ((Zea (m+1)).toList.mergeSort fun x y=> !ltOf (Zgz rs (m+1)) y x) hB (by simp[Zat]) (by simp[hsz]);rw[ZhB rs (m+1) hn] at h3;exact h3
section
variable {w W W':World} {p i:Nat} {cs ds:Array Value} {T:TypeId} {bs:List (Nat×Array Value×TypeId)}
theorem Kp.grown(h:Kp w bs W)(hg:W.grownBy W' (some p))(hb:bs[i]?=some (p,cs,T))(hd:BlkB W' p ds T):Kp w (bs.set i (p,ds,T)) W':=by
 have hm:(bs.set i (p,ds,T)).map (·.1)=bs.map (·.1):=by
  refine List.ext_getElem? fun k=> ?_
  rw[List.getElem?_map,List.getElem?_map,List.getElem?_set]
  split
  ·rename_i e
   subst e;rw[hb]
   split
   ·rfl
   ·rename_i e2;exact absurd (List.getElem?_eq_some_iff.1 hb).1 e2
  ·rfl
 refine⟨h.pow,h.bl.trans (Zce hg (h.old i hb) h.bl.size),?_,by rw[hm];exact h.ord,?_⟩
 ·intro b hx
  rcases List.mem_or_eq_of_mem_set hx with hx|rfl
  ·exact h.own b hx
  ·exact h.old i hb
 ·intro b hx;obtain⟨k,hk⟩:=List.getElem?_of_mem hx
  rw[List.getElem?_set] at hk
  split at hk
  ·split at hk
   ·injection hk with hk;subst hk;exact hd
   ·cases hk
  ·rename_i hik
   obtain⟨q,es,U⟩:=b
   have hq:=h.at_ k hk;have hne:=h.ne k i hk hb (fun e=>hik e.symm);exact(hg.block q hq.lt (fun e=>hne (by injection e))).trans hq
end
end
end Go.Proofs.YtmamnnaiogidaaaGreatDoor
