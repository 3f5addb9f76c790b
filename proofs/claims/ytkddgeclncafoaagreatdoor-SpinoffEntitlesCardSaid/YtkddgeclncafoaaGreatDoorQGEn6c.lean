/- The card of SpinoffEntitles. -/
import Derived.Test.YtkddgeclncafoaaGreatDoorQGEn6b
import Derived.Test.YtkddgeclncafoaaGreatDoorCards
import Derived.Test.YtkddgeclncafoaaGreatDoorTie
import Derived.Lib.SmallJoins
import Derived.LaidSub
import Derived.ProofKit
import Derived.OpenShut
import Derived.Carry
import Derived.LaidMore
import Derived.Deep.Slices
import Derived.Deep.DeepHandedRow
set_option maxRecDepth 100000
set_option maxHeartbeats 8000000
namespace Go.Proofs.YtkddgeclncafoaaGreatDoor
open Go.Lib renaming hid→jq
namespace lawSpinoffEntitles
open Go.ChangeShapes Go.WideShapes Go.ChangeAt Go.RowKit Go.Deep
theorem plain(f:FuncId)(fn:Func)(hf:Tryz.pinned.checked.prog.funcNamed "tranche/tranchelaw28.SpinoffEntitles" =some f)(hfn:Tryz.pinned.checked.prog.funcs[f]?=some fn):
 true=Tryz.pinned.checked.prog.looks []/\∀(j:Nat) t,fn.params[j]?=some t->Tryz.pinned.checked.prog.wantsStandIn t=false:=by
 obtain rfl:f=3:=Option.some.inj ((show Tryz.prog.funcNamed "tranche/tranchelaw28.SpinoffEntitles" =some 3 by kernel_rfl).symm.trans hf) |>.symm;obtain rfl:fn=Tryz.f3:=(Option.some.inj (Tryz.func3.symm.trans hfn)).symm;refine⟨by kernel_rfl,fun j t ht=> ?_⟩;rw[Tryz.params3] at ht;have hm:t∈[22,30]:=by simpa using Array.mem_of_getElem? ht
 have hall:([22,30].all fun u=> !Tryz.prog.wantsStandIn u)=true:=by kernel_rfl
 exact(show Tryz.prog.wantsStandIn t=false by simpa using List.all_eq_true.1 hall t hm)
theorem card(hlaw:Zmx):Rows.SpinoffEntitlesCardSaid:=
 Claim7.holds_tied_plain_at .later [] _ _ _ _ (Zpc hlaw) (fun _ h=>by cases h) (by kernel_rfl) (fun _ h=>by cases h) spinoffEntitles_row_tie rfl ⟨rfl,rfl⟩ (by kernel_rfl) rfl plain (by kernel_rfl)
end lawSpinoffEntitles
end Go.Proofs.YtkddgeclncafoaaGreatDoor
