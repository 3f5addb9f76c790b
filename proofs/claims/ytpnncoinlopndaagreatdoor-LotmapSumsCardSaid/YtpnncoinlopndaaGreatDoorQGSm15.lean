/- CLotmapSums. -/
import Derived.Test.YtpnncoinlopndaaGreatDoorQGSm14
set_option maxRecDepth 100000
namespace Go.Proofs.YtpnncoinlopndaaGreatDoor
open Go.Lib renaming hid→hdz
namespace lawLotmapSums
open Go.ChangeShapes Go.WideShapes Go.ChangeAt Go.RowKit Go.Deep
def Walk:Prop:=∀(A0:Option Addr) (n0 c0:Nat) (xs0:List Lot) (m1:Mp) (s2:List UInt8) (W:World),Env W→n0≤c0→Lots W W.heap.size A0 n0 xs0→n0≤maxLen→((A0=none∧c0=0)∨∃a,A0=some a)→(∀y∈xs0,Lot.I y)→m1.Max→(-9223372036854775808≤m1.day∧m1.day≤9223372036854775807)→s2.length≤maxLen→Calls Tryz.prog 5 #[.slice A0 n0 c0,MpV m1,S s2] W fun e w'=>e=.returned (.bool true)∧Below W.heap.size W w'
theorem Zlo(hlaw:Walk)(H:Type)(enc:TypeId×Value→H)(W:World)(hpow:Env W)(base:Nat)(args:Array Value)(ds gs:List (DataW H))(before:List MemPlace)
 (hval:∀(j:Nat) t v,Tryz.f5.params[j]?=some t→args[j]?=some v→Value.okWide Tryz.prog W .any base t v)
 (hW:DataW.Whole enc Tryz.prog Tryz.f5.params.toList Rows.lotmapSumsSpec.vars false W args.toList ds gs before):
 Calls Tryz.prog 5 args W fun e W'=>∃v,e=.returned v∧Rows.lotmapSumsSpec.post enc Tryz.prog Tryz.f5 false true false false W args v W':=by
 have hW':=hW
 obtain⟨p,q,hA0,hV,rfl,hfz,hnd⟩:=hW
 have hA:DataW.TrodAll enc Tryz.prog W 0 (fun _=>true) true Tryz.f5.params.toList args.toList ds p:=hA0
 rw[Tryz.params5] at hA hval
 obtain⟨v0,vs0,d0,ds0,p0,q0,hargs0,rfl,rfl,h0,r0⟩:=trodAll_cons hA
 obtain⟨v1,vs1,d1,ds1,p1,q1,hargs1,rfl,rfl,h1,r1⟩:=trodAll_cons r0
 obtain⟨v2,vs2,d2,ds2,p2,q2,hargs2,rfl,rfl,h2,r2⟩:=trodAll_cons r1
 obtain⟨rfl,rfl,rfl⟩:=trodAll_nil r2
 obtain rfl:args=#[v0,v1,v2]:=by cases args;simp_all
 obtain⟨rfl,rfl⟩:=trodVars_none hV
 obtain⟨A0,n0,c0,xs0,hv0,hn0,hr0,hz0,hi0⟩:=ZjU (hval 0 22 v0 (by kernel_rfl) (by kernel_rfl)) h0
 have hc0:=Zgj hv0 h0
 subst hv0
 obtain⟨m1,rfl,hm1,hd1⟩:=Zll (hval 1 28 v1 (by kernel_rfl) (by kernel_rfl)) h1
 obtain⟨s2,rfl,hl2⟩:=Zln (hval 2 24 v2 (by kernel_rfl) (by kernel_rfl)) h2
 refine(hlaw A0 n0 c0 xs0 m1 s2 W hpow hc0 hr0 hn0 hz0 hi0 hm1 hd1 hl2).mono fun e W' ⟨he,hb⟩=> ?_
 subst he
 refine⟨_,rfl,ZiA ZmK (fun t ht=> ?_) (tb:=4) (by kernel_rfl) Tryz.underlying4 rfl rfl hW' hb⟩
 rw[Tryz.params5] at ht
 have hall:([22,28,24].all fun t=>Tryz.prog.readableRec t&&decide (t<Tryz.prog.types.size))=true:=by kernel_rfl
 have:=List.all_eq_true.1 hall t (by simpa using ht)
 simpa using this
theorem ZnU(os:Os){H:Type}(enc:TypeId×Value→H):∃places,DataW.whole enc Tryz.prog ((laidWorld os).forCall (fun _ _=>0) ⟨#[],#[.slice none 0 0,.agg #[.string ⟨#[]⟩,.int .i64 0,.string ⟨#[]⟩,.string ⟨#[]⟩,.string ⟨#[]⟩,.string ⟨#[]⟩,.string ⟨#[]⟩,.string ⟨#[]⟩,.string ⟨#[]⟩,.string ⟨#[]⟩,.bool false],.string ⟨#[]⟩],[]⟩).memory Tryz.f5.params.toList Rows.lotmapSumsSpec.vars false (#[Value.slice none 0 0,Value.agg #[.string ⟨#[]⟩,.int .i64 0,.string ⟨#[]⟩,.string ⟨#[]⟩,.string ⟨#[]⟩,.string ⟨#[]⟩,.string ⟨#[]⟩,.string ⟨#[]⟩,.string ⟨#[]⟩,.string ⟨#[]⟩,.bool false],Value.string ⟨#[]⟩]:Array Value).toList 8=some ([.nil,.agg [.lit (.string []),.lit (.int .i64 0),.lit (.string []),.lit (.string []),.agg [.lit (.string []),.lit (.string [])],.agg [.lit (.string []),.lit (.string [])],.agg [.lit (.string []),.lit (.string [])],.lit (.bool false)],.lit (.string [])],[],places):=
 ⟨[],by kernel_rfl⟩
theorem Zns(hlaw:Walk)(os:Os)(started:os.Started)(H:Type)(enc:TypeId×Value→H)(F:Stop.Interp):
 ReturnsInHanded {} Tryz.checked os 5 .any ((OpenSpec.ofChange Rows.lotmapSumsSpec).preRow enc Tryz.prog Tryz.f5 Rows.lotmapSumsRow.domain false Rows.lotmapSumsRow.laid) (((OpenSpec.ofChange Rows.lotmapSumsSpec).at F).post enc Tryz.prog Tryz.f5 false true false false):=by
 obtain⟨places,hx⟩:=ZnU os enc
 refine returnsInHanded_of_row (C:=Tryz.checked) (s:=OpenSpec.ofChange Rows.lotmapSumsSpec) own started (by kernel_rfl) Tryz.func5
  (witness_row_at (enc:=enc) (C:=Tryz.checked) false (laidWorld os) #[.slice none 0 0,.agg #[.string ⟨#[]⟩,.int .i64 0,.string ⟨#[]⟩,.string ⟨#[]⟩,.string ⟨#[]⟩,.string ⟨#[]⟩,.string ⟨#[]⟩,.string ⟨#[]⟩,.string ⟨#[]⟩,.string ⟨#[]⟩,.bool false],.string ⟨#[]⟩] rfl (by kernel_rfl) (by kernel_rfl) (by kernel_rfl)
    (OpenSpec.preRow_of_cond 8 hx (by kernel_rfl) (fun k hk=>by cases hk) (by kernel_rfl) (Zlm os _))) ?_
 intro W base args ds gs before hval hW _ _ _ hL _ _
 exact Zlo hlaw H enc W (Zg2 hL) base args ds gs before hval hW
theorem Zn7(hlaw:Walk):Rows.LotmapSumsSaid:=
 OpenClaim.holds_of_cond 5 Tryz.f5 rfl rfl rfl rfl rfl rfl rfl ⟨rfl,rfl,rfl,rfl,rfl⟩ rfl rfl rfl rfl rfl (by kernel_rfl) Tryz.func5 (by kernel_rfl)
  (of_decide_eq_true (by kernel_rfl)) (by unfold Func.isWrapper;first|(rw[if_pos (by decide+kernel)];kernel_rfl)|(rw[if_neg (by decide+kernel)];exact⟨rfl,rfl⟩))
  (fun os started H enc _ F=>by rw[OpenClaim.pre_eq_preRow];exact Zns hlaw os started H enc F)
theorem ZnV(f:FuncId)(fn:Func)(hf:Tryz.pinned.checked.prog.funcNamed "tranche/tranchelaw24.LotmapSums" =some f)(hfn:Tryz.pinned.checked.prog.funcs[f]?=some fn):
 true=Tryz.pinned.checked.prog.looks []∧∀(j:Nat) t,fn.params[j]?=some t→Tryz.pinned.checked.prog.wantsStandIn t=false:=by
 obtain rfl:f=5:=Option.some.inj ((show Tryz.prog.funcNamed "tranche/tranchelaw24.LotmapSums" =some 5 by kernel_rfl).symm.trans hf) |>.symm
 obtain rfl:fn=Tryz.f5:=(Option.some.inj (Tryz.func5.symm.trans hfn)).symm
 refine⟨by kernel_rfl,fun j t ht=> ?_⟩
 rw[Tryz.params5] at ht
 have hm:t∈[22,28,24]:=by simpa using Array.mem_of_getElem? ht
 have hall:([22,28,24].all fun u=> !Tryz.prog.wantsStandIn u)=true:=by kernel_rfl
 exact(show Tryz.prog.wantsStandIn t=false by simpa using List.all_eq_true.1 hall t hm)
theorem Zoa(hlaw:Walk):Rows.LotmapSumsCardSaid:=
 Claim7.holds_tied_plain_at .later [] _ _ _ _ (Zn7 hlaw) (fun _ h=>by cases h) (by kernel_rfl) (fun _ h=>by cases h) lotmapSums_row_tie rfl ⟨rfl,rfl⟩ (by kernel_rfl) rfl ZnV (by kernel_rfl)
end lawLotmapSums
end Go.Proofs.YtpnncoinlopndaaGreatDoor
