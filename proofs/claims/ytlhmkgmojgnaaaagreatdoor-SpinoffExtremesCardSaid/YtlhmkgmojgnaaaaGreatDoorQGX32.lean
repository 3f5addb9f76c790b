/- Lv, InL. -/
import Derived.Test.YtlhmkgmojgnaaaaGreatDoorQGX34
import Derived.Lib.Overlaps
import Derived.Lib.LazyBuf
import Derived.Laws.Externs
import Derived.Deep.RegionLaw
import Derived.RegionTactic
namespace Go.Proofs.YtlhmkgmojgnaaaaGreatDoor
open Go.RowKit Go.Shelf
section
def L7(l:Lot):List Value:=[S l.id,S l.inst,.int .i64 l.acq,.int .i64 l.opn,S l.q,S l.c,S l.u]
def Jr(l:Lot):Value:=.agg #[S l.id,S l.inst,.int .i64 l.acq,.int .i64 l.opn,S l.q,S l.c,S l.u]
theorem Zav(l:Lot):(L7 l).length=7:=rfl
theorem ZhK(l:Lot):∀u∈L7 l,u.oneCell'=true:=by
 intro u hu;simp only[L7,List.mem_cons,List.mem_nil_iff,or_false] at hu
 rcases hu with rfl|rfl|rfl|rfl|rfl|rfl|rfl<;>rfl
abbrev YX(w:World)(B:Nat)(A:Option Addr)(n:Nat)(xs:List Lot):Prop:=Sl L7 7 w B A n xs
structure Lot.Sz (L:Nat) (l:Lot):Prop where
 id:l.id.length<=L
 inst:l.inst.length<=L
 q:l.q.length<=L
 c:l.c.length<=L
 u:l.u.length<=L
 a1: -9223372036854775808<=l.acq
 a2:l.acq<=9223372036854775807
 o1: -9223372036854775808<=l.opn
 o2:l.opn<=9223372036854775807
end
section
theorem Zg8:JK Tryz.prog 22 40 7 96:=Zao Tryz.underlying22 (by kernel_rfl) (by decide) (by decide)
def Zdp(x:Lot):Array Value:=#[.string ⟨x.id.toArray⟩,.string ⟨x.inst.toArray⟩,.int .i64 x.acq,.int .i64 x.opn,.string ⟨x.q.toArray⟩,.string ⟨x.c.toArray⟩,.string ⟨x.u.toArray⟩]
theorem Zg9(x:Lot):(L7 x).toArray=Zdp x:=rfl
end
end Go.Proofs.YtlhmkgmojgnaaaaGreatDoor
