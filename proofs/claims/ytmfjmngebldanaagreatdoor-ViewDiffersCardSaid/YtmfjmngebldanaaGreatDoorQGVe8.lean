/- Sx. -/
import Derived.Test.YtmfjmngebldanaaGreatDoorQGVe38
import Derived.Test.YtmfjmngebldanaaGreatDoorQGVe7
import Derived.Test.YtmfjmngebldanaaGreatDoorQGVe32
import Derived.Shelf.SlSortCmp.NoneTotal
import Derived.Sort.OwnSorted
namespace Go.Proofs.YtmfjmngebldanaaGreatDoor
section
open Go.RowKit Go.Shelf Go.Sort
theorem Za3{w w':World}{B p:Nat}(h:w.grownBy w' (some p))(hB:B<=p)(hs:B<=w.1.size):Below B w w':=
 ⟨h.os,h.tape,h.output,h.size,fun k hk=>h.block k (by omega) (fun e=>by injection e with e;omega)⟩
section
variable {w W W':World} {p i:Nat} {cs ds:Array Value} {T:TypeId} {bs:List (Nat×Array Value×TypeId)}
theorem Kp.grown(h:Kp w bs W)(hg:W.grownBy W' (some p))(hb:bs[i]?=some (p,cs,T))(hd:BlkB W' p ds T):Kp w (bs.set i (p,ds,T)) W':=by
 have hm:(bs.set i (p,ds,T)).map (·.1)=bs.map (·.1):=by
  refine List.ext_getElem? fun k=> ?_
  rw[List.getElem?_map,List.getElem?_map,List.getElem?_set]
  split
  ·rename_i e
   subst e;rw[hb]
   split
   ·rfl
   ·rename_i e2;exact absurd (List.getElem?_eq_some_iff.1 hb).1 e2
  ·rfl
 refine⟨h.pow,h.bl.trans (Za3 hg (h.old i hb) h.bl.size),?_,by rw[hm];exact h.ord,?_⟩
 ·intro b hx
  rcases List.mem_or_eq_of_mem_set hx with hx|rfl
  ·exact h.own b hx
  ·exact h.old i hb
 ·intro b hx;obtain⟨k,hk⟩:=List.getElem?_of_mem hx
  rw[List.getElem?_set] at hk
  split at hk
  ·split at hk
   ·injection hk with hk;subst hk;exact hd
   ·cases hk
  ·rename_i hik
   obtain⟨q,es,U⟩:=b
   have hq:=h.at_ k hk;have hne:=h.ne k i hk hb (fun e=>hik e.symm);exact(hg.block q hq.lt (fun e=>hne (by injection e))).trans hq
end
end
end Go.Proofs.YtmfjmngebldanaaGreatDoor
