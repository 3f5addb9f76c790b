/- A card, out of its row. -/
import Derived.Test.YtbcnkcldlealjaaGreatDoorQGVb9
set_option maxRecDepth 100000
namespace Go.Proofs.YtbcnkcldlealjaaGreatDoor
namespace lawViewOrder
open Go.ChangeShapes Go.WideShapes Go.ChangeAt Go.RowKit Go.Deep
theorem named:Tryz.prog.funcNamed Rows.viewOrderRow.func=some 10:=by kernel_rfl
theorem facts:joinedFacts Tryz.prog 10 Tryz.f10 (OpenSpec.ofChange Rows.viewOrderSpec).bare Rows.viewOrderRow=true:=by kernel_rfl
theorem inst:Tryz.f10.isInstance Tryz.prog Rows.viewOrderRow.origin Rows.viewOrderRow.targs:=of_decide_eq_true (by kernel_rfl)
theorem wrap:Tryz.f10.isWrapper Tryz.prog Rows.viewOrderRow.wrapper Rows.viewOrderRow.mainSum:=by
 unfold Func.isWrapper;first|(rw[if_pos (by decide+kernel)];kernel_rfl)|(rw[if_neg (by decide+kernel)];exact⟨rfl,rfl⟩)
theorem said(hlaw:Walk):Rows.ViewOrderSaid:=
 OpenClaim.holds_of_cond 10 Tryz.f10 rfl rfl rfl rfl rfl rfl rfl ⟨rfl,rfl,rfl,rfl,rfl⟩ rfl rfl rfl rfl rfl named Tryz.func10 facts inst wrap
  (fun os started H enc _ F=>by rw[OpenClaim.pre_eq_preRow];exact lifted hlaw os started H enc F)
theorem plain(f:FuncId)(fn:Func)(hf:Tryz.pinned.checked.prog.funcNamed "tranche/tranchelaw15.ViewOrder" =some f)(hfn:Tryz.pinned.checked.prog.funcs[f]?=some fn):
 true=Tryz.pinned.checked.prog.looks []/\∀(j:Nat) t,fn.params[j]?=some t->Tryz.pinned.checked.prog.wantsStandIn t=false:=by
 obtain rfl:f=10:=Option.some.inj ((show Tryz.prog.funcNamed "tranche/tranchelaw15.ViewOrder" =some 10 by kernel_rfl).symm.trans hf) |>.symm;obtain rfl:fn=Tryz.f10:=(Option.some.inj (Tryz.func10.symm.trans hfn)).symm;refine⟨by kernel_rfl,fun j t ht=> ?_⟩;rw[Tryz.params10] at ht;have hm:t∈[22,59]:=by simpa using Array.mem_of_getElem? ht
 have hall:([22,59].all fun u=> !Tryz.prog.wantsStandIn u)=true:=by kernel_rfl
 exact(show Tryz.prog.wantsStandIn t=false by simpa using List.all_eq_true.1 hall t hm)
theorem card(hlaw:Walk):Rows.ViewOrderCardSaid:=
 Claim7.holds_tied_plain_at .later [] _ _ _ _ (said hlaw) (fun _ h=>by cases h) (by kernel_rfl) (fun _ h=>by cases h) viewOrder_row_tie rfl ⟨rfl,rfl⟩ (by kernel_rfl) rfl plain (by kernel_rfl)
end lawViewOrder
end Go.Proofs.YtbcnkcldlealjaaGreatDoor
