/- A card, out of its row. -/
import Derived.Test.YtmfjmngebldanaaGreatDoorQGVe30
set_option maxRecDepth 100000
set_option maxHeartbeats 4000000
namespace Go.Proofs.YtmfjmngebldanaaGreatDoor
namespace lawViewOf
open Go.ChangeShapes Go.WideShapes Go.ChangeAt Go.RowKit Go.Deep
theorem named:Tryz.prog.funcNamed Rows.viewOfRow.func=some 3:=by kernel_rfl
theorem facts:joinedFacts Tryz.prog 3 Tryz.f3 (OpenSpec.ofChange Rows.viewOfSpec).bare Rows.viewOfRow=true:=by kernel_rfl
theorem inst:Tryz.f3.isInstance Tryz.prog Rows.viewOfRow.origin Rows.viewOfRow.targs:=of_decide_eq_true (by kernel_rfl)
theorem wrap:Tryz.f3.isWrapper Tryz.prog Rows.viewOfRow.wrapper Rows.viewOfRow.mainSum:=by
 unfold Func.isWrapper;first|(rw[if_pos (by decide+kernel)];kernel_rfl)|(rw[if_neg (by decide+kernel)];exact⟨rfl,rfl⟩)
theorem said(hlaw:Walk):Rows.ViewOfSaid:=
 OpenClaim.holds_of_cond 3 Tryz.f3 rfl rfl rfl rfl rfl rfl rfl ⟨rfl,rfl,rfl,rfl,rfl⟩ rfl rfl rfl rfl rfl named Tryz.func3 facts inst wrap
  (fun os started H enc _ F=>by rw[OpenClaim.pre_eq_preRow];exact lifted hlaw os started H enc F)
theorem plain(f:FuncId)(fn:Func)(hf:Tryz.pinned.checked.prog.funcNamed "tranche/tranchelaw15.ViewOf" =some f)(hfn:Tryz.pinned.checked.prog.funcs[f]?=some fn):
 true=Tryz.pinned.checked.prog.looks []/\∀(j:Nat) t,fn.params[j]?=some t->Tryz.pinned.checked.prog.wantsStandIn t=false:=by
 obtain rfl:f=3:=Option.some.inj ((show Tryz.prog.funcNamed "tranche/tranchelaw15.ViewOf" =some 3 by kernel_rfl).symm.trans hf) |>.symm;obtain rfl:fn=Tryz.f3:=(Option.some.inj (Tryz.func3.symm.trans hfn)).symm;refine⟨by kernel_rfl,fun j t ht=> ?_⟩;rw[Tryz.params3] at ht;have hm:t∈[22,22,3]:=by simpa using Array.mem_of_getElem? ht
 have hall:([22,22,3].all fun u=> !Tryz.prog.wantsStandIn u)=true:=by kernel_rfl
 exact(show Tryz.prog.wantsStandIn t=false by simpa using List.all_eq_true.1 hall t hm)
theorem card(hlaw:Walk):Rows.ViewOfCardSaid:=
 Claim7.holds_tied_plain_at .later [] _ _ _ _ (said hlaw) (fun _ h=>by cases h) (by kernel_rfl) (fun _ h=>by cases h) viewOf_row_tie rfl ⟨rfl,rfl⟩ (by kernel_rfl) rfl plain (by kernel_rfl)
end lawViewOf
end Go.Proofs.YtmfjmngebldanaaGreatDoor
