/- Lv, Lof, Lg. -/
import Derived.Test.YtokjnjdbnabchaaGreatDoorQGEo40
import Derived.Test.YtokjnjdbnabchaaGreatDoorQGEo1
namespace Go.Proofs.YtokjnjdbnabchaaGreatDoor
open Go.RowKit Go.Shelf
section
structure Lot.Sz (L:Nat) (l:Lot):Prop where
 id:l.id.length<=L
 inst:l.inst.length<=L
 q:l.q.length<=L
 c:l.c.length<=L
 u:l.u.length<=L
 a1: -9223372036854775808<=l.acq
 a2:l.acq<=9223372036854775807
 o1: -9223372036854775808<=l.opn
 o2:l.opn<=9223372036854775807
end
section
attribute [local go_sem] Oper.semAt_some
end
section
structure Lot.Max (x:Lot):Prop where
 id:x.id.length<=maxLen
 inst:x.inst.length<=maxLen
 q:x.q.length<=maxLen
 c:x.c.length<=maxLen
 u:x.u.length<=maxLen
theorem YH(a:List UInt8)(w:World):Calls Tryz.prog 127 #[S a] w fun e w'=>e=.returned (.bool (decide (13<a.length)))/\w=w':=by
 unfold S;go_enter Tryz.func127,Tryz.ntmps127
 go_wp2_with fail
 go_ret
 refine⟨Ql ?_,rfl⟩;rw[Bool.eq_iff_iff];simp
 omega
end
end Go.Proofs.YtokjnjdbnabchaaGreatDoor
