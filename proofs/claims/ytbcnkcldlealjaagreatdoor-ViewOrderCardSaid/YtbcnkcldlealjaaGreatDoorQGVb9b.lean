/- A card, out of its row. -/
import Derived.Test.YtbcnkcldlealjaaGreatDoorQGVb9
set_option maxRecDepth 100000
namespace Go.Proofs.YtbcnkcldlealjaaGreatDoor
namespace lawViewDifferences
open Go.ChangeShapes Go.WideShapes Go.ChangeAt Go.RowKit Go.Deep
theorem named:Tryz.prog.funcNamed Rows.viewDifferencesRow.func=some 9:=by kernel_rfl
theorem facts:joinedFacts Tryz.prog 9 Tryz.f9 (OpenSpec.ofChange Rows.viewDifferencesSpec).bare Rows.viewDifferencesRow=true:=by kernel_rfl
theorem inst:Tryz.f9.isInstance Tryz.prog Rows.viewDifferencesRow.origin Rows.viewDifferencesRow.targs:=of_decide_eq_true (by kernel_rfl)
theorem wrap:Tryz.f9.isWrapper Tryz.prog Rows.viewDifferencesRow.wrapper Rows.viewDifferencesRow.mainSum:=by
 unfold Func.isWrapper;first|(rw[if_pos (by decide+kernel)];kernel_rfl)|(rw[if_neg (by decide+kernel)];exact⟨rfl,rfl⟩)
theorem said(hlaw:Walk):Rows.ViewDifferencesSaid:=
 OpenClaim.holds_of_cond 9 Tryz.f9 rfl rfl rfl rfl rfl rfl rfl ⟨rfl,rfl,rfl,rfl,rfl⟩ rfl rfl rfl rfl rfl named Tryz.func9 facts inst wrap
  (fun os started H enc _ F=>by rw[OpenClaim.pre_eq_preRow];exact lifted hlaw os started H enc F)
theorem plain(f:FuncId)(fn:Func)(hf:Tryz.pinned.checked.prog.funcNamed "tranche/tranchelaw15.ViewDifferences" =some f)(hfn:Tryz.pinned.checked.prog.funcs[f]?=some fn):
 true=Tryz.pinned.checked.prog.looks []/\∀(j:Nat) t,fn.params[j]?=some t->Tryz.pinned.checked.prog.wantsStandIn t=false:=by
 obtain rfl:f=9:=Option.some.inj ((show Tryz.prog.funcNamed "tranche/tranchelaw15.ViewDifferences" =some 9 by kernel_rfl).symm.trans hf) |>.symm;obtain rfl:fn=Tryz.f9:=(Option.some.inj (Tryz.func9.symm.trans hfn)).symm;refine⟨by kernel_rfl,fun j t ht=> ?_⟩;rw[Tryz.params9] at ht;have hm:t∈[22,5,5]:=by simpa using Array.mem_of_getElem? ht
 have hall:([22,5,5].all fun u=> !Tryz.prog.wantsStandIn u)=true:=by kernel_rfl
 exact(show Tryz.prog.wantsStandIn t=false by simpa using List.all_eq_true.1 hall t hm)
theorem card(hlaw:Walk):Rows.ViewDifferencesCardSaid:=
 Claim7.holds_tied_plain_at .later [] _ _ _ _ (said hlaw) (fun _ h=>by cases h) (by kernel_rfl) (fun _ h=>by cases h) viewDifferences_row_tie rfl ⟨rfl,rfl⟩ (by kernel_rfl) rfl plain (by kernel_rfl)
end lawViewDifferences
end Go.Proofs.YtbcnkcldlealjaaGreatDoor
