/- A card, out of its row. -/
import Derived.Test.YtokjnjdbnabchaaGreatDoorQGEp10
set_option maxRecDepth 100000
namespace Go.Proofs.YtokjnjdbnabchaaGreatDoor
namespace lawExchangeTime
open Go.ChangeShapes Go.WideShapes Go.ChangeAt Go.RowKit Go.Deep
theorem named:Tryz.prog.funcNamed Rows.exchangeTimeRow.func=some 6:=by kernel_rfl
theorem and2{a b:Bool}(ha:a=true)(hb:b=true):(a&&b)=true:=by rw[ha,hb];rfl
set_option maxHeartbeats 40000000 in
theorem facts:joinedFacts Tryz.prog 6 Tryz.f6 (OpenSpec.ofChange Rows.exchangeTimeSpec).bare Rows.exchangeTimeRow=true:=by
 unfold joinedFacts
 with_reducible repeat' refine and2 ?_ ?_
 all_goals as_aux_lemma=>kernel_rfl
theorem inst:Tryz.f6.isInstance Tryz.prog Rows.exchangeTimeRow.origin Rows.exchangeTimeRow.targs:=of_decide_eq_true (by kernel_rfl)
theorem wrap:Tryz.f6.isWrapper Tryz.prog Rows.exchangeTimeRow.wrapper Rows.exchangeTimeRow.mainSum:=by
 unfold Func.isWrapper;first|(rw[if_pos (by decide+kernel)];kernel_rfl)|(rw[if_neg (by decide+kernel)];exact⟨rfl,rfl⟩)
theorem said(hlaw:Walk):Rows.ExchangeTimeSaid:=
 OpenClaim.holds_of_cond 6 Tryz.f6 rfl rfl rfl rfl rfl rfl rfl ⟨rfl,rfl,rfl,rfl,rfl⟩ rfl rfl rfl rfl rfl named Tryz.func6 facts inst wrap
  (fun os started H enc _ F=>by rw[OpenClaim.pre_eq_preRow];exact lifted hlaw os started H enc F)
theorem plain(f:FuncId)(fn:Func)(hf:Tryz.pinned.checked.prog.funcNamed "tranche/tranchelaw16.ExchangeTime" =some f)(hfn:Tryz.pinned.checked.prog.funcs[f]?=some fn):
 true=Tryz.pinned.checked.prog.looks []/\∀(j:Nat) t,fn.params[j]?=some t->Tryz.pinned.checked.prog.wantsStandIn t=false:=by
 obtain rfl:f=6:=Option.some.inj ((show Tryz.prog.funcNamed "tranche/tranchelaw16.ExchangeTime" =some 6 by kernel_rfl).symm.trans hf) |>.symm;obtain rfl:fn=Tryz.f6:=(Option.some.inj (Tryz.func6.symm.trans hfn)).symm;refine⟨by kernel_rfl,fun j t ht=> ?_⟩;rw[Tryz.params6] at ht;have hm:t∈[22,9,9,23]:=by simpa using Array.mem_of_getElem? ht
 have hall:([22,9,9,23].all fun u=> !Tryz.prog.wantsStandIn u)=true:=by kernel_rfl
 exact(show Tryz.prog.wantsStandIn t=false by simpa using List.all_eq_true.1 hall t hm)
theorem card(hlaw:Walk):Rows.ExchangeTimeCardSaid:=
 Claim7.holds_tied_plain_at .later [] _ _ _ _ (said hlaw) (fun _ h=>by cases h) (by kernel_rfl) (fun _ h=>by cases h) exchangeTime_row_tie rfl ⟨rfl,rfl⟩ (by kernel_rfl) rfl plain (by kernel_rfl)
end lawExchangeTime
end Go.Proofs.YtokjnjdbnabchaaGreatDoor
