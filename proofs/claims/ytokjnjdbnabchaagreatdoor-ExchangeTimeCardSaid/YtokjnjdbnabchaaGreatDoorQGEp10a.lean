/- A card, out of its row. -/
import Derived.Test.YtokjnjdbnabchaaGreatDoorQGEp10
set_option maxRecDepth 100000
namespace Go.Proofs.YtokjnjdbnabchaaGreatDoor
namespace lawExchangePaths
open Go.ChangeShapes Go.WideShapes Go.ChangeAt Go.RowKit Go.Deep
theorem named:Tryz.prog.funcNamed Rows.exchangePathsRow.func=some 5:=by kernel_rfl
theorem and2{a b:Bool}(ha:a=true)(hb:b=true):(a&&b)=true:=by rw[ha,hb];rfl
set_option maxHeartbeats 40000000 in
theorem facts:joinedFacts Tryz.prog 5 Tryz.f5 (OpenSpec.ofChange Rows.exchangePathsSpec).bare Rows.exchangePathsRow=true:=by
 unfold joinedFacts
 with_reducible repeat' refine and2 ?_ ?_
 all_goals as_aux_lemma=>kernel_rfl
theorem inst:Tryz.f5.isInstance Tryz.prog Rows.exchangePathsRow.origin Rows.exchangePathsRow.targs:=of_decide_eq_true (by kernel_rfl)
theorem wrap:Tryz.f5.isWrapper Tryz.prog Rows.exchangePathsRow.wrapper Rows.exchangePathsRow.mainSum:=by
 unfold Func.isWrapper;first|(rw[if_pos (by decide+kernel)];kernel_rfl)|(rw[if_neg (by decide+kernel)];exact⟨rfl,rfl⟩)
theorem said(hlaw:Walk):Rows.ExchangePathsSaid:=
 OpenClaim.holds_of_cond 5 Tryz.f5 rfl rfl rfl rfl rfl rfl rfl ⟨rfl,rfl,rfl,rfl,rfl⟩ rfl rfl rfl rfl rfl named Tryz.func5 facts inst wrap
  (fun os started H enc _ F=>by rw[OpenClaim.pre_eq_preRow];exact lifted hlaw os started H enc F)
theorem plain(f:FuncId)(fn:Func)(hf:Tryz.pinned.checked.prog.funcNamed "tranche/tranchelaw16.ExchangePaths" =some f)(hfn:Tryz.pinned.checked.prog.funcs[f]?=some fn):
 true=Tryz.pinned.checked.prog.looks []/\∀(j:Nat) t,fn.params[j]?=some t->Tryz.pinned.checked.prog.wantsStandIn t=false:=by
 obtain rfl:f=5:=Option.some.inj ((show Tryz.prog.funcNamed "tranche/tranchelaw16.ExchangePaths" =some 5 by kernel_rfl).symm.trans hf) |>.symm;obtain rfl:fn=Tryz.f5:=(Option.some.inj (Tryz.func5.symm.trans hfn)).symm;refine⟨by kernel_rfl,fun j t ht=> ?_⟩;rw[Tryz.params5] at ht;have hm:t∈[22,9,9,23]:=by simpa using Array.mem_of_getElem? ht
 have hall:([22,9,9,23].all fun u=> !Tryz.prog.wantsStandIn u)=true:=by kernel_rfl
 exact(show Tryz.prog.wantsStandIn t=false by simpa using List.all_eq_true.1 hall t hm)
theorem card(hlaw:Walk):Rows.ExchangePathsCardSaid:=
 Claim7.holds_tied_plain_at .later [] _ _ _ _ (said hlaw) (fun _ h=>by cases h) (by kernel_rfl) (fun _ h=>by cases h) exchangePaths_row_tie rfl ⟨rfl,rfl⟩ (by kernel_rfl) rfl plain (by kernel_rfl)
end lawExchangePaths
end Go.Proofs.YtokjnjdbnabchaaGreatDoor
