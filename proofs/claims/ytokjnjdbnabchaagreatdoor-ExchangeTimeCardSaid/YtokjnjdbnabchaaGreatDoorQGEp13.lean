/- Fn. -/
import Derived.Test.YtokjnjdbnabchaaGreatDoorQGEp9
import Derived.Test.YtokjnjdbnabchaaGreatDoorQGEp39
import Derived.Laws.IdiomRangeMap
set_option maxRecDepth 100000
set_option maxHeartbeats 4000000
namespace Go.Proofs.YtokjnjdbnabchaaGreatDoor
open Go.Lib renaming hid→jq
section
open Go.RowKit Go.Shelf
attribute [local go_sem] Oper.semAt_some
attribute [local go_sem ↓] Go.wp_at_zero Go.wp_at_succ Yy JM
def LimI(W:World)(m:Int->Option Value)(nums:List (Nat×Bool×Bool)):Prop:=
 ∀k:Int,match nums.find? (fun x=>(x.1:Int)==k) with|some x=>∃v,m k=some v/\LimV W v x.2.1 x.2.2|none=>m k=none
def LimB(W:World)(b n:Nat)(nums:List (Nat×Bool×Bool)):Prop:=∃m,ImB W b n m/\LimI W m nums
theorem ImB.noCells{W:World}{b n:Nat}{m:Int->Option Value}(h:ImB W b n m)(cs:Array Value)(T:TypeId)(f:Nat×Nat):W.heap[b]?≠some (.cells cs T f):=by
 obtain⟨D,⟨es,clock,h1,h2⟩,h3⟩:=h
 rw[h1];intro e
 cases e
theorem LimI.here{W W':World}{m:Int->Option Value}{nums:List (Nat×Bool×Bool)}(h:LimI W m nums)(hb:∀v p q,LimV W v p q->LimV W' v p q):LimI W' m nums:=by
 intro k;have:=h k
 split<;>rename_i e<;>rw[e] at this
 ·obtain⟨v,h1,h2⟩:=this;exact⟨v,h1,hb _ _ _ h2⟩
 ·exact this
section
variable {W W':World} {b n r nn:Nat} {nums:List (Nat×Bool×Bool)} {m:Int->Option Value}
theorem LimB.lt(h:LimB W b n nums):b<W.1.size:=h.elim fun _ h=>h.1.lt
theorem LimB.here(h:LimB W b n nums)(hb:Below W.1.size W W'):LimB W' b n nums:=by
 obtain⟨m,h1,h2⟩:=h
 exact⟨m,h1.here hb,h2.here fun _ _ _ h=>h.here hb⟩
theorem LimB.grown(h:LimB W b n nums)(hr:ImB W r nn m)(hg:W.grownBy W' (some r))(hne:b≠r):LimB W' b n nums:=by
 obtain⟨m',h1,h2⟩:=h
 exact⟨m',h1.grown hg (fun e=>hne (by injection e)),h2.here fun _ _ _ h=>h.grown hg hr.noCells⟩
theorem Za2(W:World):LimB (W.alloc (.map #[] 0)) W.1.size 0 []:=⟨_,ZdW W,fun _=>rfl⟩
theorem LimB.put{i:Nat}{v:Value}{p q:Bool}(k0:Int)(h:LimB W b n nums)(hk0:k0=(i:Int))(hn:n<100)(hi:i<=12)(hv:LimV W v p q)(hx:nums.all (fun x=>x.1 !=i)=true):
 ∃W',(Instr.mapUpdate 180 (.map (some b)) (.int .i64 k0) v).run Tryz.prog W=.ok () W'/\LimB W' b (n+1) (nums++[(i,p,q)])/\W.grownBy W' (some b):=by
 subst hk0;obtain⟨m,h1,h2⟩:=h
 obtain⟨W',hr,h3,hg⟩:=h1.put (t:=180) (k:=(i:Int)) Tryz.underlying180 (by unfold maxLen;omega) (by omega) (by omega) v
 refine⟨W',hr,⟨_,h3,fun k=> ?_⟩,hg⟩;have h4:=(h2.here (W':=W') fun _ _ _ h=>h.grown hg h1.noCells) k;rw[List.find?_append]
 by_cases e:k=(i:Int)
 ·subst e
  have hf:nums.find? (fun x=>(x.1:Int)==(i:Int))=none:=by
   rw[List.find?_eq_none];intro x hx';have:=List.all_eq_true.1 hx x hx'
   simp only[bne_iff_ne,ne_eq] at this;simp only[beq_iff_eq];omega
  rw[hf,List.find?_cons_of_pos (by simp)];exact⟨v,by simp,hv.grown hg h1.noCells⟩
 ·rw[List.find?_cons_of_neg (by simp only[beq_iff_eq];omega),List.find?_nil];simp only[if_neg e]
  cases hf:nums.find? (fun x=>(x.1:Int)==k)<;>rw[hf] at h4<;>exact h4
end
def LimM(W:World)(mv:Value)(nums:List (Nat×Bool×Bool)):Prop:=(mv=.map none/\nums=[])\/∃b n,mv=.map (some b)/\LimB W b n nums
theorem LimM.here{W W':World}{mv:Value}{nums:List (Nat×Bool×Bool)}(h:LimM W mv nums)(hb:Below W.1.size W W'):LimM W' mv nums:=by
 rcases h with h|⟨b,n,e,h⟩
 ·exact .inl h
 ·exact .inr ⟨b,n,e,h.here hb⟩
def I1(n:Nat):List Value:=[.int .i64 (n:Int)]
theorem ZfP(n:Nat):(I1 n).length=1:=rfl
theorem Zhn{W:World}{m:Int->Option Value}{nums:List (Nat×Bool×Bool)}(h:LimI W m nums){k:Int}{v:Value}(hk:m k=some v)(hn:∀x∈nums,x.1<=12):∃i:Nat,i<=12/\k=(i:Int):=by
 have:=h k
 cases hf:nums.find? (fun x=>(x.1:Int)==k) with
 |none=>rw[hf] at this;rw[this] at hk;cases hk
 |some x=>
  have h1:=List.mem_of_find?_eq_some hf;have h2:=List.find?_some hf;simp only[beq_iff_eq] at h2;exact⟨x.1,hn x h1,h2.symm⟩
theorem Zho{W:World}{m:Int->Option Value}{nums:List (Nat×Bool×Bool)}(h:LimI W m nums)(i:Nat):(m (i:Int)).isSome=nums.any (fun x=>x.1==i):=by
 have:=h (i:Int)
 cases hf:nums.find? (fun x=>(x.1:Int)==(i:Int)) with
 |none=>
  rw[hf] at this;rw[this,Option.isSome_none,eq_comm,List.any_eq_false];intro x hx hxi;have:=List.find?_eq_none.1 hf x hx
  simp only[beq_iff_eq] at this hxi;omega
 |some x=>
  rw[hf] at this;obtain⟨v,h1,_⟩:=this
  rw[h1,Option.isSome_some,eq_comm,List.any_eq_true];have h2:=List.find?_some hf;simp only[beq_iff_eq] at h2;exact⟨x,List.mem_of_find?_eq_some hf,by simp only[beq_iff_eq];omega⟩
theorem Zct{nums:List (Nat×Bool×Bool)}{more:List Nat}{k x:Nat}(hx:more[k]?=some x)(j:Nat):
 (if j==x then true else(nums.any (fun y=>y.1==j)||(more.take k).contains j))=(nums.any (fun y=>y.1==j)||(more.take (k+1)).contains j):=by
 obtain⟨hk,rfl⟩:=List.getElem?_eq_some_iff.1 hx
 rw[List.take_succ_eq_append_getElem hk,List.contains_append]
 by_cases e:j=more[k]
 ·simp[e]
 ·simp[e]
theorem Zhp{D:DataW Value}{left:Lit->Bool}{i j:Nat}(h:Maps.has D (.int .i64 (i:Int))=true):
 (if j==i then true else(Maps.has D (.int .i64 (j:Int))&& !left (.int .i64 (j:Int))))=(Maps.has D (.int .i64 (j:Int))&& !(left (.int .i64 (j:Int))&& !(Lit.int .i64 (j:Int)).sameKey (.int .i64 (i:Int)))):=by
 by_cases e:j=i
 ·subst e;rw[WideAt.sameKey_self (by simp[WideAt.IsKeyLit]),h];simp
 ·rw[Maps.sameKey_ne (fun h=>e (by injection h with _ h;omega))];simp[e]
theorem ZbH(w:World)(b i:Nat)(v:Value):w.grownBy (w.setCell ⟨b,i,none⟩ v) (some b):=
 ⟨rfl,rfl,rfl,by simp[World.setCell],fun k _ hk=>Below.heap_setCell w ⟨b,i,none⟩ v k (fun e=>hk (by rw[e]))⟩
theorem Kp.grow{w W W':World}{bs:List (Nat×Array Value×TypeId)}{p:Nat}(h:Kp w bs W)(hg:W.grownBy W' (some p))(hp:w.1.size<=p)(hne:∀b∈bs,b.1≠p):Kp w bs W':=
 ⟨h.pow,h.bl.trans ⟨hg.os,hg.tape,hg.output,hg.size,fun k hk=>hg.block k (by have:=h.bl.size;omega) (fun e=>by injection e with e;omega)⟩,h.own,h.ord,fun b hm=>(hg.block b.1 (h.blk b hm).lt (fun e=>hne b hm (by injection e))).trans (h.blk b hm)⟩
theorem JE(word:List UInt8)(cls:Int)(o:Option Nat)(nums:List (Nat×Bool×Bool))(A:Option Addr)(n c:Nat)(more:List Nat)(w:World)(hp:Env w)(hm:LimM w (.map o) nums)(hn:∀x∈nums,x.1<=12)(hs:Sl I1 1 w w.1.size A n more)(hmo:∀x∈more,x<=12)(hl:n<=1000):
 Calls Tryz.prog 203 #[S word,.int .i64 cls,.map o,.slice A n c] w fun e w'=>e=.returned (.agg (kB word cls (fun i=>nums.any (fun x=>x.1==i)||more.contains i) (.map o) false))/\Below w.1.size w w':=by
 have hmc:(Value.map o).oneCell'=true:=rfl;have H1:=(Kp.start hp).new w.1.size rfl #[.string ⟨#[]⟩,.int .i64 0,.bool false,.bool false,.bool false,.bool false,.bool false,.bool false,.bool false,.bool false,.bool false,.bool false,.bool false,.bool false,.bool false,.map none,.bool false] 182;have H2:=H1.new (w.1.size+1) (by simp) #[.string ⟨#[]⟩,.int .i64 0,.bool false,.bool false,.bool false,.bool false,.bool false,.bool false,.bool false,.bool false,.bool false,.bool false,.bool false,.bool false,.bool false,.map none,.bool false] 182;have hst:=Yk (pb:=kB word cls (fun _=>false) (.map o) false) (H2.at_ 0 rfl) rfl rfl (Yj _ _ _ _ _ hmc);unfold kB at hst;have H3:=jq (show Kp w [(w.1.size+1,kB word cls (fun _=>false) (.map o) false,182),(w.1.size,#[.string ⟨#[]⟩,.int .i64 0,.bool false,.bool false,.bool false,.bool false,.bool false,.bool false,.bool false,.bool false,.bool false,.bool false,.bool false,.bool false,.bool false,.map none,.bool false],182)] (((w.alloc (.cells #[.string ⟨#[]⟩,.int .i64 0,.bool false,.bool false,.bool false,.bool false,.bool false,.bool false,.bool false,.bool false,.bool false,.bool false,.bool false,.bool false,.bool false,.map none,.bool false] 182)).alloc (.cells #[.string ⟨#[]⟩,.int .i64 0,.bool false,.bool false,.bool false,.bool false,.bool false,.bool false,.bool false,.bool false,.bool false,.bool false,.bool false,.bool false,.bool false,.map none,.bool false] 182)).setRow (w.1.size+1) #[.string ⟨word.toArray⟩,.int .i64 cls,.bool false,.bool false,.bool false,.bool false,.bool false,.bool false,.bool false,.bool false,.bool false,.bool false,.bool false,.bool false,.bool false,.map o,.bool false]) from H2.row 0 rfl (kB word cls (fun _=>false) (.map o) false));have HSZ:=jq (show(((w.alloc (.cells #[.string ⟨#[]⟩,.int .i64 0,.bool false,.bool false,.bool false,.bool false,.bool false,.bool false,.bool false,.bool false,.bool false,.bool false,.bool false,.bool false,.bool false,.map none,.bool false] 182)).alloc (.cells #[.string ⟨#[]⟩,.int .i64 0,.bool false,.bool false,.bool false,.bool false,.bool false,.bool false,.bool false,.bool false,.bool false,.bool false,.bool false,.bool false,.bool false,.map none,.bool false] 182)).setRow (w.1.size+1) #[.string ⟨word.toArray⟩,.int .i64 cls,.bool false,.bool false,.bool false,.bool false,.bool false,.bool false,.bool false,.bool false,.bool false,.bool false,.bool false,.bool false,.bool false,.map o,.bool false]).heap.size=w.1.size+2 by simp[World.setRow]);clear H1 H2;unfold S;go_enter Tryz.func203,Tryz.ntmps203
 go_upto_region 2 with (fail)
 generalize ((w.alloc (.cells #[.string ⟨#[]⟩,.int .i64 0,.bool false,.bool false,.bool false,.bool false,.bool false,.bool false,.bool false,.bool false,.bool false,.bool false,.bool false,.bool false,.bool false,.map none,.bool false] 182)).alloc (.cells #[.string ⟨#[]⟩,.int .i64 0,.bool false,.bool false,.bool false,.bool false,.bool false,.bool false,.bool false,.bool false,.bool false,.bool false,.bool false,.bool false,.bool false,.map none,.bool false] 182)).setRow (w.1.size+1) #[.string ⟨word.toArray⟩,.int .i64 cls,.bool false,.bool false,.bool false,.bool false,.bool false,.bool false,.bool false,.bool false,.bool false,.bool false,.bool false,.bool false,.bool false,.map o,.bool false]=W at*;clear hst;have hb3:=H3.out.bl;have HM:=jq (hm.here hb3)
 have HLT:=jq (show ∀b,o=some b->b<w.1.size by
  rintro b rfl
  rcases hm with ⟨h,_⟩|⟨b',k,h,hl⟩
  ·cases h
  ·injection h with h;injection h with h;subst h;exact hl.lt)
 clear hm hb3
 rcases o with _|b
 ·have HNIL:=jq (show nums=[] by
   rcases HM.out with ⟨_,h⟩|⟨_,_,h,_⟩
   ·exact h
   ·cases h)
  have hrg:=run_range_nilMap (P:=Tryz.prog) W 180 3 230 Tryz.underlying180;have hnx:∀ty,(Instr.next (.pointer (some ⟨W.1.size,0,none⟩)) false ty).run Tryz.prog (W.alloc (.mapIter none 0 #[] 0))=_:=fun ty=>run_next_nilMap W ty 0 0 #[]
  have HK:=jq (H3.out.alloc (.mapIter none 0 #[] 0));clear H3;go_wp2_with fail
  refine wp_loop_rounds 1 ?_;rw[rounds_succ];go_upto_region 6 with (fail)
  generalize W.alloc (.mapIter none 0 #[] 0)=W1 at*;clear hrg hnx
  replace HK:=jq (show Kp w [(w.1.size+1,kB word cls (fun j=>nums.any (fun x=>x.1==j)) (.map none) false,182),(w.1.size,#[.string ⟨#[]⟩,.int .i64 0,.bool false,.bool false,.bool false,.bool false,.bool false,.bool false,.bool false,.bool false,.bool false,.bool false,.bool false,.bool false,.bool false,.map none,.bool false],182)] W1 by
   rw[HNIL.out];exact HK.out)
  go_wp2_with fail
  go_loopw [12,28] (fun _ i wr=>∃k:Nat,k<=n/\i=.int .i64 k/\Hid (Kp w [(w.1.size+1,kB word cls (fun j=>nums.any (fun x=>x.1==j)||(more.take k).contains j) (.map none) false,182),(w.1.size,#[.string ⟨#[]⟩,.int .i64 0,.bool false,.bool false,.bool false,.bool false,.bool false,.bool false,.bool false,.bool false,.bool false,.bool false,.bool false,.bool false,.bool false,.map none,.bool false],182)] wr)) (fun _ i _=>n-(intOf i).toNat)
  case atStart=>exact⟨0,Nat.zero_le _,rfl,by show Kp _ _ _;rw[List.take_zero,XC (q:=fun j=>nums.any (fun x=>x.1==j)) (fun j _=>by simp)];exact HK.out⟩
  case round=>
   clear HK;obtain⟨k,hk,rfl,HK⟩:=hrel
   by_cases hlt:k<n
   ·obtain⟨a0,off,x,rfl,hb,hx,hc⟩:=(hs.below HK.out.bl).at_ hlt
    have d0:wr.cell? ⟨a0,off+k,none⟩=some (.int .i64 (x:Int)):=by have:=hc 0 _ rfl;rwa [Nat.mul_one,Nat.add_zero] at this
    have hx12:x<=12:=hmo x (List.mem_of_getElem? hx);have i1:(0:Int)<=(x:Int):=by omega
    have i2:(x:Int)<13:=by omega
    have c0:=HK.out.c 0 (2+x) rfl (Zbm _ _ _ _ _ x hx12);have f0:=HK.out.f 0 (2+x) rfl;have HN:=jq (HK.out.set 0 (2+x) rfl (.bool true));rw[Zc7 _ _ _ _ _ x hx12] at HN;have HE:=jq (show ∀j,j<=12->(if j==x then true else(nums.any (fun y=>y.1==j)||(more.take k).contains j))=(nums.any (fun y=>y.1==j)||(more.take (k+1)).contains j) from fun j _=>Zct hx j);clear hc hx hx12;go_wp2_with fail
    go_roundw
    case rel=>exact⟨k+1,by omega,by go_num,by show Kp _ _ _;rw[<-XC HE.out];exact HN.out⟩
    case measure=>simp[intOf];omega
   ·obtain rfl:k=n:=by omega
    have HT:=jq (show more.take k=more from List.take_of_length_le (by rw[<-hs.1];exact Nat.le_refl _));obtain⟨pb,hpb⟩:∃pb,pb=kB word cls (fun j=>nums.any (fun x=>x.1==j)||(more.take k).contains j) (.map none) false:=⟨_,rfl⟩
    have hp1:pb.size=17:=by rw[hpb];rfl
    have hp2:pb.all (·.oneCell')=true:=by rw[hpb];exact Yj _ _ _ _ _ rfl
    rw[<-hpb] at HK;have hl:=Jw (HK.out.at_ 0 rfl) hp1;have hst:=Yk (pb:=pb) (HK.out.at_ 1 rfl) rfl hp1 hp2;have HR:=jq (HK.out.row 1 rfl pb);rw[HT.out] at hpb;have HPB:=jq hpb;clear hpb hp2 HK;go_wp2_with fail
    have hrl:=run_loadVar_row (P:=Tryz.prog) _ w.1.size 182 182 pb (0,0) _ (HR.out.at_ 1 rfl) Tryz.underlying182 rfl (by rw[hp1];kernel_rfl);refine bodyPost_ret (v:=.agg pb) (by simp[results,Tryz.results203,asAddr,hrl]) rfl ?_;exact⟨by rw[HPB.out],HR.out.bl⟩
 ·rcases HM.out with ⟨h,_⟩|⟨b',kk,h,m,⟨D,hown,hD⟩,hI⟩
  ·cases h
  injection h with h;injection h with h;subst h;have hbw:b<w.1.size:=HLT.out b rfl;have HI:=jq hI;have HD:=jq hD;clear hI hD
  go_wp2_with (first
   |(at_range;refine wpList_range_own _ rfl _ 180 rfl 3 230 (Maps.int_keyed Tryz.underlying3) Tryz.underlying180 _ b kk _ rfl hown ?_;intro w0 hrg0 hg0 hs0)
   |go_in)
  go_frame
  have HK0:=jq (H3.out.here (show Below W.1.size W w0 from⟨hg0.os,hg0.tape,hg0.output,hg0.size,fun k hk=>hg0.block k hk (by simp)⟩));have HW:=jq (show W.1.size=w.1.size+2 from HSZ.out);clear hg0 hs0
  go_loopw [10] (fun _ wr=>∃(left:Lit->Bool) (cnt:Nat),Hid (wr.ranges Tryz.prog 3 ZfO b W.1.size kk D left cnt)/\Hid (Kp w [(w.1.size+1,kB word cls (fun j=>Maps.has D (.int .i64 (j:Int))&& !left (.int .i64 (j:Int))) (.map (some b)) false,182),(w.1.size,#[.string ⟨#[]⟩,.int .i64 0,.bool false,.bool false,.bool false,.bool false,.bool false,.bool false,.bool false,.bool false,.bool false,.bool false,.bool false,.bool false,.bool false,.map none,.bool false],182)] wr)) (fun _ wr=>wr.rangeLeft b W.1.size)
  case atStart=>
   refine⟨_,_,hrg0,?_⟩
   show Kp _ _ _
   rw[XC (q:=fun _=>false) (fun j _=>by simp)];exact HK0.out
  case round=>
   obtain⟨left,cnt,HRG,HK⟩:=hrel
   clear hrg0 HK0
   go_wp2_with (first
    |(at_next;refine wpList_next_ranges _ rfl _ rfl 3 (Maps.int_keyed Tryz.underlying3) ZfO (Value.int .i64) (fun v:Value=>v) (fun key kl hkey=>by obtain⟨x,rfl,_⟩:=Maps.keyOf_int_inv Tryz.underlying3 hkey;exact⟨x,rfl⟩) (fun v y hv=>⟨v,rfl⟩) b W.1.size kk D left cnt rfl HRG.out ?_ ?_)
    |go_in)
   ·intro hc0 hl0
    replace HK:=jq (show Kp w [(w.1.size+1,kB word cls (fun j=>nums.any (fun x=>x.1==j)) (.map (some b)) false,182),(w.1.size,#[.string ⟨#[]⟩,.int .i64 0,.bool false,.bool false,.bool false,.bool false,.bool false,.bool false,.bool false,.bool false,.bool false,.bool false,.bool false,.bool false,.bool false,.map none,.bool false],182)] wr by
     have h:=HK.out
     rwa [XC (q:=fun j=>nums.any (fun x=>x.1==j)) (fun j _=>by rw[hl0,Bool.not_false,Bool.and_true,(HD.out.2 _).1,Zho HI.out])] at h)
    clear hl0 hc0 HRG;go_wp2_with fail
    go_loopw [12,28] (fun _ i wr=>∃k:Nat,k<=n/\i=.int .i64 k/\Hid (Kp w [(w.1.size+1,kB word cls (fun j=>nums.any (fun x=>x.1==j)||(more.take k).contains j) (.map (some b)) false,182),(w.1.size,#[.string ⟨#[]⟩,.int .i64 0,.bool false,.bool false,.bool false,.bool false,.bool false,.bool false,.bool false,.bool false,.bool false,.bool false,.bool false,.bool false,.bool false,.map none,.bool false],182)] wr)) (fun _ i _=>n-(intOf i).toNat)
    case atStart=>exact⟨0,Nat.zero_le _,rfl,by show Kp _ _ _;rw[List.take_zero,XC (q:=fun j=>nums.any (fun x=>x.1==j)) (fun j _=>by simp)];exact HK.out⟩
    case round=>
     clear HK;obtain⟨k,hk,rfl,HK⟩:=hrel
     by_cases hlt:k<n
     ·obtain⟨a0,off,x,rfl,hb,hx,hc⟩:=(hs.below HK.out.bl).at_ hlt
      have d0:wr.cell? ⟨a0,off+k,none⟩=some (.int .i64 (x:Int)):=by have:=hc 0 _ rfl;rwa [Nat.mul_one,Nat.add_zero] at this
      have hx12:x<=12:=hmo x (List.mem_of_getElem? hx);have i1:(0:Int)<=(x:Int):=by omega
      have i2:(x:Int)<13:=by omega
      have c0:=HK.out.c 0 (2+x) rfl (Zbm _ _ _ _ _ x hx12);have f0:=HK.out.f 0 (2+x) rfl;have HN:=jq (HK.out.set 0 (2+x) rfl (.bool true));rw[Zc7 _ _ _ _ _ x hx12] at HN;have HE:=jq (show ∀j,j<=12->(if j==x then true else(nums.any (fun y=>y.1==j)||(more.take k).contains j))=(nums.any (fun y=>y.1==j)||(more.take (k+1)).contains j) from fun j _=>Zct hx j);clear hc hx hx12;go_wp2_with fail
      go_roundw
      case rel=>exact⟨k+1,by omega,by go_num,by show Kp _ _ _;rw[<-XC HE.out];exact HN.out⟩
      case measure=>simp[intOf];omega
     ·obtain rfl:k=n:=by omega
      have HT:=jq (show more.take k=more from List.take_of_length_le (by rw[<-hs.1];exact Nat.le_refl _));obtain⟨pb,hpb⟩:∃pb,pb=kB word cls (fun j=>nums.any (fun x=>x.1==j)||(more.take k).contains j) (.map (some b)) false:=⟨_,rfl⟩
      have hp1:pb.size=17:=by rw[hpb];rfl
      have hp2:pb.all (·.oneCell')=true:=by rw[hpb];exact Yj _ _ _ _ _ rfl
      rw[<-hpb] at HK;have hl:=Jw (HK.out.at_ 0 rfl) hp1;have hst:=Yk (pb:=pb) (HK.out.at_ 1 rfl) rfl hp1 hp2;have HR:=jq (HK.out.row 1 rfl pb);rw[HT.out] at hpb;have HPB:=jq hpb;clear hpb hp2 HK;go_wp2_with fail
      have hrl:=run_loadVar_row (P:=Tryz.prog) _ w.1.size 182 182 pb (0,0) _ (HR.out.at_ 1 rfl) Tryz.underlying182 rfl (by rw[hp1];kernel_rfl);refine bodyPost_ret (v:=.agg pb) (by simp[results,Tryz.results203,asAddr,hrl]) rfl ?_;exact⟨by rw[HPB.out],HR.out.bl⟩
   ·intro x c kl y ps w1 cnt1 hkey hlx hR hat hrg1 hlt hg1 hs1 hen;obtain⟨x',ex,rfl,_⟩:=Maps.keyOf_int_inv Tryz.underlying3 hkey
    injection ex with _ ex;subst ex;have hhas:Maps.has D (.int .i64 x)=true:=Maps.has_true_of_atKey hat
    obtain⟨i,hi,rfl⟩:∃i:Nat,i<=12/\x=(i:Int):=by
     have h1:=(HD.out.2 x).1;rw[hhas] at h1;obtain⟨v,hv⟩:=Option.isSome_iff_exists.1 h1.symm
     exact Zhn HI.out hv hn
    have HK1:=HK.out.grow hg1 (by have:=HW.out;omega) (fun q hq=>by
     simp only[List.mem_cons,List.mem_nil_iff,or_false] at hq;have:=HW.out
     rcases hq with rfl|rfl<;>simp only<;>omega)
    have i1:(0:Int)<=(i:Int):=by omega
    have i2:(i:Int)<13:=by omega
    have c0:=HK1.c 0 (2+i) rfl (Zbm _ _ _ _ _ i hi);have f0:=HK1.f 0 (2+i) rfl;have HN:=jq (HK1.set 0 (2+i) rfl (.bool true));rw[Zc7 _ _ _ _ _ i hi] at HN;have HRN:=jq (hrg1.kept (ZbH w1 (w.1.size+1) (2+i) (.bool true)) (by simp;omega) (by have:=HW.out;simp;omega));have HE:=jq (show ∀j,j<=12->(if j==i then true else(Maps.has D (.int .i64 (j:Int))&& !left (.int .i64 (j:Int))))=(Maps.has D (.int .i64 (j:Int))&& !(left (.int .i64 (j:Int))&& !(Lit.int .i64 (j:Int)).sameKey (.int .i64 (i:Int)))) from fun j _=>Zhp hhas);have HRO:=jq hrg1.left_eq;clear hkey hlx hR hat hg1 hs1 hhas HK1 hrg1;go_wp2_with fail
    go_roundw
    case rel=>exact⟨_,cnt1,HRN,by show Kp _ _ _;rw[<-XC HE.out];exact HN.out⟩
    case measure=>rw[HRN.out.left_eq,HRG.out.left_eq];exact hlt
end
end Go.Proofs.YtokjnjdbnabchaaGreatDoor
