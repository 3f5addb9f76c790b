/- Fo, Fq, Fr1, Fr2. -/
import Derived.Test.YtokjnjdbnabchaaGreatDoorQGEo16
import Derived.Carry
set_option maxRecDepth 100000
set_option maxHeartbeats 4000000
namespace Go.Proofs.YtokjnjdbnabchaaGreatDoor
open Go.Lib renaming hid→jq
open Go.RowKit Go.Shelf
section
attribute [local go_sem] Oper.semAt_some
attribute [local go_sem ↓] Go.wp_at_zero Go.wp_at_succ Yp JB
theorem Zbt(word:List UInt8)(cls:Int)(p:Nat->Bool)(mv:Value):(kB word cls p mv false).setIfInBounds 16 (.bool true)=kB word cls p mv true:=rfl
theorem Zes(word:List UInt8)(cls:Int)(p:Nat->Bool)(mv:Value)(hm:mv.oneCell'=true)(w:World)(hp:Env w):
 Calls Tryz.prog 205 #[.agg (kB word cls p mv false)] w fun e w'=>e=.returned (.agg (kB word cls p mv true))/\Below w.1.size w w':=by
 obtain⟨pa,ha⟩:∃pa,pa=kB word cls p mv false:=⟨_,rfl⟩
 obtain⟨pb,hb⟩:∃pb,pb=kB word cls p mv true:=⟨_,rfl⟩
 have a1:pa.size=17:=by rw[ha];rfl
 have b1:pb.size=17:=by rw[hb];rfl
 have b2:pb.all (·.oneCell')=true:=by rw[hb];exact Ya _ _ _ _ _ hm
 have a3:pa[16]?=some (.bool false):=by rw[ha];rfl
 have a4:pa.setIfInBounds 16 (.bool true)=pb:=by rw[ha,hb];exact Zbt _ _ _ _
 rw[<-ha,<-hb];have H1:=(Kp.start hp).new w.1.size rfl pa 182;have H2:=jq (H1.new (w.1.size+1) (by simp) #[.string ⟨#[]⟩,.int .i64 0,.bool false,.bool false,.bool false,.bool false,.bool false,.bool false,.bool false,.bool false,.bool false,.bool false,.bool false,.bool false,.bool false,.map none,.bool false] 182);clear H1 ha hb hm hp;go_enter Tryz.func205,Tryz.ntmps205
 go_upto_region 1 with (fail)
 generalize (w.alloc (.cells pa 182)).alloc (.cells #[.string ⟨#[]⟩,.int .i64 0,.bool false,.bool false,.bool false,.bool false,.bool false,.bool false,.bool false,.bool false,.bool false,.bool false,.bool false,.bool false,.bool false,.map none,.bool false] 182)=W at*;have c0:=H2.out.c 1 16 rfl a3;have f0:=H2.out.f 1 16 rfl;have H3:=jq (H2.out.set 1 16 rfl (.bool true));rw[a4] at H3;have hl:=Jh (H3.out.at_ 1 rfl) b1;have hst:=Yb (pb:=pb) (H3.out.at_ 0 rfl) rfl b1 b2;have HR:=jq (H3.out.row 0 rfl pb);go_wp2_with fail
 have hrl:=run_loadVar_row (P:=Tryz.prog) _ (w.1.size+1) 182 182 pb (0,0) _ (HR.out.at_ 0 rfl) Tryz.underlying182 rfl (by rw[b1];kernel_rfl);refine bodyPost_ret (v:=.agg pb) (by simp[results,Tryz.results205,asAddr,hrl]) rfl ?_;exact⟨rfl,HR.out.bl⟩
theorem ZiL(w:World)(l:List Nat)(cs:Array Value)(hc:cs.toList=l.flatMap I1):Sl I1 1 (w.alloc (.cells cs 3)) (w.alloc (.cells cs 3)).heap.size (some ⟨w.1.size,0,none⟩) l.length l:=by
 have:=Sl.lit w cs 3 l hc ZfB
 simpa using this
theorem LimB.row{W:World}{b n g:Nat}{nums:List (Nat×Bool×Bool)}{old:Array Value}(h:LimB W b n nums)(hg:BlkB W g old 182)(c:Array Value):LimB (W.setRow g c) b n nums:=by
 obtain⟨m,h1,h2⟩:=h
 have hbox:∀B u,Box W B 4 u->Box (W.setRow g c) B 4 u:=fun B u hB=>by
  refine(QJ W g c (fun e=> ?_)).trans hB;subst e;unfold Box at hB;unfold BlkB at hg;rw[hB] at hg;injection hg with hg;injection hg with _ hg _;exact absurd hg (by decide)
 refine⟨m,?_,h2.here fun v p q ⟨b1,b2,e,x1,x2⟩=>⟨b1,b2,e,hbox _ _ x1,hbox _ _ x2⟩⟩;have hne:b≠g:=fun e=>by subst e;exact h1.noCells _ _ _ hg
 obtain⟨D,⟨es,clock,e1,e2⟩,e3⟩:=h1
 exact⟨D,⟨es,clock,(QJ W g c hne).trans e1,e2⟩,e3⟩
theorem Zca(word:List UInt8)(cl:Value)(B1 B3:Nat)(w:World)(hp:Env w)(h3:Box w B3 232 (.func (.func 203) #[] #[]))(h1:Box w B1 230 cl)(hc:LimV w cl true false):
 Calls Tryz.prog 204 #[S word,.pointer (some ⟨B3,0,none⟩),.pointer (some ⟨B1,0,none⟩)] w fun e w'=>∃nb,e=.returned (.agg (kB word 2 (KRow.has ⟨2,[(5,true,false)],[2],false⟩) (.map (some nb)) false))/\w.1.size<=nb/\LimM w' (.map (some nb)) [(5,true,false)]/\Below w.1.size w w':=by
 have hmm:= @run_makeMap Tryz.prog;have H1:=jq ((Kp.start hp).new w.1.size rfl #[.string ⟨#[]⟩,.int .i64 0,.bool false,.bool false,.bool false,.bool false,.bool false,.bool false,.bool false,.bool false,.bool false,.bool false,.bool false,.bool false,.bool false,.map none,.bool false] 182);obtain⟨b1,b2,hcl,hb1,hb2⟩:=hc
 subst hcl;have HC:=jq (show LimV w _ true false from⟨b1,b2,rfl,hb1,hb2⟩);have x3:=(h3.alloc (.cells #[.string ⟨#[]⟩,.int .i64 0,.bool false,.bool false,.bool false,.bool false,.bool false,.bool false,.bool false,.bool false,.bool false,.bool false,.bool false,.bool false,.bool false,.map none,.bool false] 182)).cell;have x1:=((h1.alloc (.cells #[.string ⟨#[]⟩,.int .i64 0,.bool false,.bool false,.bool false,.bool false,.bool false,.bool false,.bool false,.bool false,.bool false,.bool false,.bool false,.bool false,.bool false,.map none,.bool false] 182)).alloc (.map #[] 0)).cell;clear h3 h1 hb1 hb2 hp;unfold S;obtain⟨W1,hp1,hn1,hg1⟩:=(ZaN (w.alloc (.cells #[.string ⟨#[]⟩,.int .i64 0,.bool false,.bool false,.bool false,.bool false,.bool false,.bool false,.bool false,.bool false,.bool false,.bool false,.bool false,.bool false,.bool false,.map none,.bool false] 182))).put (i:=5) 5 rfl (by omega) (by omega) ((HC.out.here (W':=(w.alloc (.cells #[.string ⟨#[]⟩,.int .i64 0,.bool false,.bool false,.bool false,.bool false,.bool false,.bool false,.bool false,.bool false,.bool false,.bool false,.bool false,.bool false,.bool false,.map none,.bool false] 182)).alloc (.map #[] 0)) (((Below.refl _ _).alloc (Nat.le_refl _) _).alloc (by simp) _))) rfl
 rw[World.size_alloc] at hp1 hn1 hg1
 have HK1:=jq ((H1.out.alloc (.map #[] 0)).grow hg1 (by omega) (fun q hq=>by
  simp only[List.mem_cons,List.mem_nil_iff,or_false] at hq;subst hq;simp only;omega))
 have HN1:=jq hn1;have HK2:=jq (HK1.out.alloc (.cells #[.int .i64 2] 3));have HKO:=jq (Jr word 2 (some (w.1.size+1)) [(5,true,false)] (some ⟨W1.1.size,0,none⟩) 1 1 [2] (W1.alloc (.cells #[.int .i64 2] 3)) HK2.out.pw (.inr ⟨_,_,rfl,hn1.here ((Below.refl _ _).alloc (Nat.le_refl _) _)⟩) (by decide) (ZiL W1 [2] _ rfl) (by decide) (by omega));obtain⟨pb,hpb⟩:∃pb,pb=kB word 2 (KRow.has ⟨2,[(5,true,false)],[2],false⟩) (.map (some (w.1.size+1))) false:=⟨_,rfl⟩
 rw[show(fun i=>[(5,true,false)].any (fun x=>x.1==i)||[2].contains i)=KRow.has ⟨2,[(5,true,false)],[2],false⟩ from rfl,<-hpb] at HKO;have p1:pb.size=17:=by rw[hpb];rfl
 have p2:pb.all (·.oneCell')=true:=by rw[hpb];exact Ya _ _ _ _ _ rfl
 have HPB:=jq hpb;clear hpb hn1 hg1;unfold S at*
 go_enter Tryz.func204,Tryz.ntmps204
 go_wp2_with fail
 refine HKO.out.mono ?_;rintro e w2 ⟨rfl,hb2⟩;have HK3:=jq (HK2.out.here hb2);have hst:=Yb (pb:=pb) (HK3.out.at_ 0 rfl) rfl p1 p2;have HR:=jq (HK3.out.row 0 rfl pb);have HLM:=jq ((HN1.out.here ((Below.refl _ _).alloc (Nat.le_refl _) (.cells #[.int .i64 2] 3))).here hb2);clear p2 hb2;go_wp2_with fail
 have hrl:=run_loadVar_row (P:=Tryz.prog) _ w.1.size 182 182 pb (0,0) _ (HR.out.at_ 0 rfl) Tryz.underlying182 rfl (by rw[p1];kernel_rfl);refine bodyPost_ret (v:=.agg pb) (by simp[results,Tryz.results204,asAddr,hrl]) rfl ?_;exact⟨_,by rw[HPB.out],by omega,.inr ⟨_,_,rfl,HLM.out.row (HK3.out.at_ 0 rfl) pb⟩,HR.out.bl⟩
end
section
attribute [local go_sem] Oper.semAt_some
attribute [local go_sem ↓] Go.wp_at_zero Go.wp_at_succ Yp JB
theorem VP{b:Nat}{W V V':World}(h:Below W.1.size W V)(hg:V.grownBy V' (some b))(hb:W.1.size<=b):Below W.1.size W V':=
 QY h hg h.size (fun g e=>by injection e with e;omega)
theorem Kp.growM{w W W':World}{bs:List (Nat×Array Value×TypeId)}{p n:Nat}{m:Int->Option Value}(h:Kp w bs W)(hm:ImB W p n m)(hg:W.grownBy W' (some p))(hp:w.1.size<=p):Kp w bs W':=
 h.grow hg hp (fun b hb e=>by subst e;exact hm.noCells _ _ _ (h.blk b hb))
def KindB(bm:Nat)(W:World)(v:Value)(r:KRow):Prop:=∃word mv,v=.agg (kB word r.cls r.has mv r.code)/\LimM W mv r.nums/\mv≠ .map (some bm)
theorem KindB.here{bm:Nat}{W W':World}{v:Value}{r:KRow}(h:KindB bm W v r)(hb:Below W.1.size W W'):KindB bm W' v r:=by
 obtain⟨word,mv,h1,h2,h3⟩:=h
 exact⟨word,mv,h1,h2.here hb,h3⟩
theorem KindB.grown{bm n:Nat}{W W':World}{v:Value}{r:KRow}{m:Int->Option Value}(h:KindB bm W v r)(hm:ImB W bm n m)(hg:W.grownBy W' (some bm)):KindB bm W' v r:=by
 obtain⟨word,mv,h1,h2,h3⟩:=h
 refine⟨word,mv,h1,?_,h3⟩
 rcases h2 with h2|⟨b,k,rfl,h2⟩
 ·exact .inl h2
 ·exact .inr ⟨b,k,rfl,h2.grown hm hg (fun e=>h3 (by rw[e]))⟩
theorem KindB.code{bm:Nat}{W:World}{pb pc:Array Value}{word:List UInt8}{cls:Int}{nums:List (Nat×Bool×Bool)}{more:List Nat}{mv:Value}(h:KindB bm W (.agg pb) ⟨cls,nums,more,false⟩)(hb:pb=kB word cls (KRow.has ⟨cls,nums,more,false⟩) mv false)
 (hc:pc=kB word cls (KRow.has ⟨cls,nums,more,false⟩) mv true):KindB bm W (.agg pc) ⟨cls,nums,more,true⟩:=by
 obtain⟨word',mv',h1,h2,h3⟩:=h
 rw[hb] at h1;injection h1 with h1
 have e:mv=mv':=by
  have:=congrArg (fun a:Array Value=>a[15]?) h1
  simpa[kB] using this
 subst e;exact⟨word,mv,by rw[hc];rfl,h2,h3⟩
def RowsB(W:World)(bm n:Nat)(l:List (Int×KRow)):Prop:=
 ∃m,ImB W bm n m/\∀k:Int,match l.find? (fun x=>x.1==k) with|some x=>∃v,m k=some v/\KindB bm W v x.2|none=>m k=none
theorem RowsB.lt{W:World}{bm n:Nat}{l:List (Int×KRow)}(h:RowsB W bm n l):bm<W.1.size:=h.elim fun _ h=>h.1.lt
theorem RowsB.here{W W':World}{bm n:Nat}{l:List (Int×KRow)}(h:RowsB W bm n l)(hb:Below W.1.size W W'):RowsB W' bm n l:=by
 obtain⟨m,h1,h2⟩:=h
 refine⟨m,h1.here hb,fun k=> ?_⟩;have:=h2 k
 split<;>rename_i e<;>rw[e] at this
 ·obtain⟨v,a,b⟩:=this;exact⟨v,a,b.here hb⟩
 ·exact this
theorem RowsB.put{W:World}{bm n:Nat}{l:List (Int×KRow)}{v:Value}{r:KRow}(h:RowsB W bm n l)(k0:Int)(hv:KindB bm W v r)(hx:l.all (fun x=>x.1 !=k0)=true)(hn:n<100)(h1: -9223372036854775808<=k0)(h2:k0<=9223372036854775807):
 ∃W',(Instr.mapUpdate 184 (.map (some bm)) (.int .i64 k0) v).run Tryz.prog W=.ok () W'/\RowsB W' bm (n+1) (l++[(k0,r)])/\W.grownBy W' (some bm):=by
 obtain⟨m,hm,hr⟩:=h
 obtain⟨W',he,hm',hg⟩:=hm.put (t:=184) (k:=k0) Tryz.underlying184 (by unfold maxLen;omega) h1 h2 v
 refine⟨W',he,⟨_,hm',fun k=> ?_⟩,hg⟩;have h4:=hr k;rw[List.find?_append]
 by_cases e:k=k0
 ·subst e
  have hf:l.find? (fun x=>x.1==k)=none:=by
   rw[List.find?_eq_none];intro x hx';have:=List.all_eq_true.1 hx x hx'
   simpa using this
  rw[hf,List.find?_cons_of_pos (by simp)];exact⟨v,by simp,hv.grown hm hg⟩
 ·rw[List.find?_cons_of_neg (by simp only[beq_iff_eq];exact fun h=>e h.symm),List.find?_nil];simp only[if_neg e]
  cases hf:l.find? (fun x=>x.1==k)<;>rw[hf] at h4
  ·exact h4
  ·obtain⟨v',a,b⟩:=h4;exact⟨v',a,b.grown hm hg⟩
structure KSt (w V:World) (B1 B3 bm bt n:Nat) (clP clL:Value) (l:List (Int×KRow)):Prop where
 k:Kp w [(B3,#[.func (.func 203) #[] #[]],232),(B1,#[clP],230)] V
 p:LimV V clP true false
 q:LimV V clL false false
 t:LimB V bt 3 [(4,true,false),(5,false,false),(6,false,false)]
 r:RowsB V bm n l
 ge:w.1.size<=bm
 ne:bt≠bm
section
variable {w V V':World} {B1 B3 bm bt n:Nat} {clP clL:Value} {l:List (Int×KRow)}
theorem KSt.here(h:KSt w V B1 B3 bm bt n clP clL l)(hb:Below V.1.size V V'):KSt w V' B1 B3 bm bt n clP clL l:=⟨h.k.here hb,h.p.here hb,h.q.here hb,h.t.here hb,h.r.here hb,h.ge,h.ne⟩
theorem KSt.put{v:Value}{r:KRow}(h:KSt w V B1 B3 bm bt n clP clL l)(k0:Int)(hv:KindB bm V v r)(hx:l.all (fun x=>x.1 !=k0)=true)(hn:n<100)(h1: -9223372036854775808<=k0)(h2:k0<=9223372036854775807):
 ∃V',(Instr.mapUpdate 184 (.map (some bm)) (.int .i64 k0) v).run Tryz.prog V=.ok () V'/\KSt w V' B1 B3 bm bt (n+1) clP clL (l++[(k0,r)]):=by
 obtain⟨V',he,hr,hg⟩:=h.r.put k0 hv hx hn h1 h2
 obtain⟨m,hm,_⟩:=h.r
 exact⟨V',he,h.k.growM hm hg h.ge,h.p.grown hg hm.noCells,h.q.grown hg hm.noCells,h.t.grown hm hg h.ne,hr,h.ge,h.ne⟩
end
def YW:List (Int×KRow):=[(1,⟨2,[(5,true,false)],[2],false⟩),(2,⟨2,[(5,true,false)],[2],false⟩),(3,⟨3,[(4,true,false),(5,false,false),(6,false,false)],[0],false⟩),(4,⟨3,[(4,true,false),(5,false,false),(6,false,false)],[0,10],false⟩),(5,⟨1,[(7,true,false)],[0],false⟩),(6,⟨2,[(5,true,false)],[2],false⟩),(7,⟨2,[(4,true,false),(5,true,false)],[1,2],true⟩),(8,⟨1,[(7,false,false),(8,true,false)],[0],false⟩),(9,⟨1,[(7,false,false),(8,true,false),(9,false,true)],[0,1],false⟩),(10,⟨1,[],[0,11],false⟩),(11,⟨4,[],[0,3,12],false⟩),(12,⟨3,[(4,true,false),(7,false,false),(8,true,false)],[0,1],false⟩),(13,⟨1,[(7,true,false)],[0],false⟩),(14,⟨1,[(7,false,false)],[0],false⟩),(15,⟨4,[(7,false,false)],[0],false⟩),(16,⟨4,[(8,true,false)],[1,2],true⟩),(17,⟨2,[(5,true,false)],[2],false⟩),(18,⟨2,[(5,true,false)],[2],false⟩)]
theorem Zet(k:Int):(YW.find? (fun x=>x.1==k)).map (·.2)=Xt k:=by
 by_cases h:1<=k/\k<=18
 ·have:k=1\/k=2\/k=3\/k=4\/k=5\/k=6\/k=7\/k=8\/k=9\/k=10\/k=11\/k=12\/k=13\/k=14\/k=15\/k=16\/k=17\/k=18:=by omega
  rcases this with rfl|rfl|rfl|rfl|rfl|rfl|rfl|rfl|rfl|rfl|rfl|rfl|rfl|rfl|rfl|rfl|rfl|rfl<;>rfl
 ·have e1:YW.find? (fun x=>x.1==k)=none:=by
   rw[List.find?_eq_none];intro x hx;have:∀x∈YW,1<=x.1/\x.1<=18:=by decide
   have:=this x hx
   simp only[beq_iff_eq];omega
  rw[e1];unfold Xt
  split<;>first|omega|rfl
end
section
inductive Cst where|of|amt|code|P|L|tr
deriving DecidableEq
inductive D where
 |mk (j:Nat) (big:Bool)
 |ld (d s:Nat) (T:Nat) (c:Cst)
 |mc (d s:Nat) (c:Cst)
 |mv (d j:Nat)
 |asg (d j:Nat)
 |sl (d:Nat) (l:List Nat)
 |cof (d f m j s:Nat) (word:List UInt8) (cls:Int) (more:List Nat)
 |cot (d f m s:Nat) (word:List UInt8) (cls:Int) (more:List Nat)
 |cno (d f s:Nat) (word:List UInt8) (cls:Int) (more:List Nat)
 |cam (d f:Nat) (word:List UInt8)
 |cco (d f x:Nat)
 |cbt (d:Nat)
 |ins (j:Nat) (big:Bool) (key:Int) (src:Nat)
deriving DecidableEq
def D.dst:D->Option Nat
 | .mk j _=>some j| .ld d _ _ _=>some d| .mc d _ _=>some d| .mv d _=>some d| .asg d _=>some d| .sl d _=>some d| .cof d _ _ _ _ _ _ _=>some d| .cot d _ _ _ _ _ _=>some d
 | .cno d _ _ _ _ _=>some d| .cam d _ _=>some d| .cco d _ _=>some d| .cbt d=>some d| .ins _ _ _ _=>none
def D.slots:D->List Nat
 | .mk j _=>[j]| .ld d _ _ _=>[d]| .mc d _ _=>[d]| .mv d j=>[d,j]| .asg d j=>[d,j]| .sl d _=>[d]| .cof d _ m _ _ _ _ _=>[d,m]| .cot d _ _ _ _ _ _=>[d]
 | .cno d _ _ _ _ _=>[d]| .cam d _ _=>[d]| .cco d _ x=>[d,x]| .cbt d=>[d]| .ins _ _ _ src=>[src]
def D.op:D->Op
 | .mk _ big=>.makeMap (if big then 184 else 180) none
 | .ld _ s T _=>.load T (.tmp s)
 | .mc _ s _=>.move (.tmp s)
 | .mv _ j=>.move (.tmp j)
 | .asg _ j=>.assign (.tmp j)
 | .sl _ l=>.buildSlice 127 l.length (l.mapIdx fun i x=>(i,.const (.int .i64 (x:Int)))).toArray
 | .cof _ f m _ s word cls _=>.call {callee:=.value (.tmp f),args:=#[.const (.string ⟨word.toArray⟩),.const (.int .i64 cls),.tmp m,.tmp s],argTypes:=#[9,3,180,127]}
 | .cot _ f m s word cls _=>.call {callee:=.value (.tmp f),args:=#[.const (.string ⟨word.toArray⟩),.const (.int .i64 cls),.tmp m,.tmp s],argTypes:=#[9,3,180,127]}
 | .cno _ f s word cls _=>.call {callee:=.value (.tmp f),args:=#[.const (.string ⟨word.toArray⟩),.const (.int .i64 cls),.const (.map none),.tmp s],argTypes:=#[9,3,180,127]}
 | .cam _ f word=>.call {callee:=.value (.tmp f),args:=#[.const (.string ⟨word.toArray⟩)],argTypes:=#[9]}
 | .cco _ f x=>.call {callee:=.value (.tmp f),args:=#[.tmp x],argTypes:=#[182]}
 | .cbt _=>.call {callee:=.value (.func 202),args:=#[.const (.bool false),.const (.bool true)],argTypes:=#[4,4]}
 | .ins j big key src=>.insert (if big then 184 else 180) (.tmp j) (.const (.int .i64 key)) (.tmp src)
def Vs(id:Nat):Code->Option (Array Oper)
 | .region k ops _=>if k==id then some ops else none
 | .seq a b=>match Vs id a with|some x=>some x|none=>Vs id b
 | .cond _ a b=>match Vs id a with|some x=>some x|none=>Vs id b
 | .block _ a=>Vs id a
 | .loop a=>Vs id a
 | .scope a=>Vs id a
 |_=>none
noncomputable def Xl:Array Oper:=((Tryz.f148.body).bind (Vs 6)).getD #[]
def Qy:List D:=[
 .mk 15 true,
 .mc 16 4 .amt,
 .cam 17 16 [100,101,112,111,115,105,116],
 .ins 15 true 1 17,
 .mc 18 4 .amt,
 .cam 19 18 [119,105,116,104,100,114,97,119],
 .ins 15 true 2 19,
 .ld 20 3 232 .of,
 .mc 21 6 .tr,
 .sl 22 [0],
 .cot 23 20 21 22 [98,117,121] 3 [0],
 .ins 15 true 3 23,
 .ld 24 3 232 .of,
 .mc 25 6 .tr,
 .sl 26 [0,10],
 .cot 27 24 25 26 [115,101,108,108] 3 [0,10],
 .ins 15 true 4 27,
 .ld 28 3 232 .of,
 .mk 29 false,
 .ld 30 1 230 .P,
 .ins 29 false 7 30,
 .mv 31 29,
 .sl 32 [0],
 .cof 33 28 31 29 32 [105,110,99,111,109,101] 1 [0],
 .ins 15 true 5 33,
 .mc 34 4 .amt,
 .cam 35 34 [101,120,112,101,110,115,101],
 .ins 15 true 6 35,
 .mc 36 5 .code,
 .ld 37 3 232 .of,
 .mk 38 false,
 .ld 39 1 230 .P,
 .ins 38 false 4 39,
 .ld 40 1 230 .P,
 .ins 38 false 5 40,
 .mv 41 38,
 .sl 42 [1,2],
 .cof 43 37 41 38 42 [99,111,110,118,101,114,116] 2 [1,2],
 .cco 44 36 43,
 .ins 15 true 7 44,
 .ld 45 3 232 .of,
 .mk 46 false,
 .mc 47 2 .L,
 .ins 46 false 7 47,
 .ld 48 1 230 .P,
 .ins 46 false 8 48,
 .mv 49 46,
 .sl 50 [0],
 .cof 51 45 49 46 50 [115,112,108,105,116] 1 [0],
 .ins 15 true 8 51,
 .ld 52 3 232 .of,
 .mk 53 false,
 .mc 54 2 .L,
 .ins 53 false 7 54,
 .ld 55 1 230 .P,
 .ins 53 false 8 55,
 .cbt 56,
 .ins 53 false 9 56,
 .mv 57 53,
 .sl 58 [0,1],
 .cof 59 52 57 53 58 [115,112,105,110,111,102,102] 1 [0,1],
 .ins 15 true 9 59,
 .ld 60 3 232 .of,
 .sl 61 [0,11],
 .cno 62 60 61 [101,120,99,104,97,110,103,101] 1 [0,11],
 .ins 15 true 10 62,
 .ld 63 3 232 .of,
 .sl 64 [0,3,12],
 .cno 65 63 64 [101,108,101,99,116] 4 [0,3,12],
 .ins 15 true 11 65,
 .ld 66 3 232 .of,
 .mk 67 false,
 .ld 68 1 230 .P,
 .ins 67 false 4 68,
 .mc 69 2 .L,
 .ins 67 false 7 69,
 .ld 70 1 230 .P,
 .ins 67 false 8 70,
 .mv 71 67,
 .sl 72 [0,1],
 .cof 73 66 71 67 72 [101,120,101,114,99,105,115,101] 3 [0,1],
 .ins 15 true 12 73,
 .ld 74 3 232 .of,
 .mk 75 false,
 .ld 76 1 230 .P,
 .ins 75 false 7 76,
 .mv 77 75,
 .sl 78 [0],
 .cof 79 74 77 75 78 [99,97,112,105,116,97,108] 1 [0],
 .ins 15 true 13 79,
 .ld 80 3 232 .of,
 .mk 81 false,
 .mc 82 2 .L,
 .ins 81 false 7 82,
 .mv 83 81,
 .sl 84 [0],
 .cof 85 80 83 81 84 [99,97,108,108] 1 [0],
 .ins 15 true 14 85,
 .ld 86 3 232 .of,
 .mk 87 false,
 .mc 88 2 .L,
 .ins 87 false 7 88,
 .mv 89 87,
 .sl 90 [0],
 .cof 91 86 89 87 90 [112,114,105,99,101] 4 [0],
 .ins 15 true 15 91,
 .mc 92 5 .code,
 .ld 93 3 232 .of,
 .mk 94 false,
 .ld 95 1 230 .P,
 .ins 94 false 8 95,
 .mv 96 94,
 .sl 97 [1,2],
 .cof 98 93 96 94 97 [114,97,116,101] 4 [1,2],
 .cco 99 92 98,
 .ins 15 true 16 99,
 .mc 100 4 .amt,
 .cam 101 100 [105,115,115,117,101],
 .ins 15 true 17 101,
 .mc 102 4 .amt,
 .cam 103 102 [99,97,110,99,101,108],
 .ins 15 true 18 103,
 .mv 104 15,
 .asg 0 104]
def QM(j:Nat):List (Nat×Int×Nat):=
 match j with
 |15=>[(3,1,17),(6,2,19),(11,3,23),(16,4,27),(24,5,33),(27,6,35),(39,7,44),(49,8,51),(61,9,59),(65,10,62),(69,11,65),(81,12,73),(89,13,79),(97,14,85),(105,15,91),(115,16,99),(118,17,101),(121,18,103)]
 |29=>[(20,7,30)]
 |38=>[(32,4,39),(34,5,40)]
 |46=>[(43,7,47),(45,8,48)]
 |53=>[(53,7,54),(55,8,55),(57,9,56)]
 |67=>[(73,4,68),(75,7,69),(77,8,70)]
 |75=>[(85,7,76)]
 |81=>[(93,7,82)]
 |87=>[(101,7,88)]
 |94=>[(110,8,95)]
 |_=>[]
def Yj(s:Nat):Bool×Bool:=
 match s with
 |30=>(true,false)
 |39=>(true,false)
 |40=>(true,false)
 |47=>(false,false)
 |48=>(true,false)
 |54=>(false,false)
 |55=>(true,false)
 |56=>(false,true)
 |68=>(true,false)
 |69=>(false,false)
 |70=>(true,false)
 |76=>(true,false)
 |82=>(false,false)
 |88=>(false,false)
 |95=>(true,false)
 |_=>(false,false)
def Xg(j:Nat):List (Nat×Bool×Bool):=(QM j).map fun x=>(x.2.1.toNat,Yj x.2.2)
noncomputable def Xs(i n:Nat):Bool:=match Xl[i]? with|some o=>o.after.any (fun e=>e.on==n)|none=>false
theorem ZfK:Xl.toList.map (fun o=>(o.dst,o.op,o.guard))=Qy.map (fun d=>(d.dst,d.op,none)):=by kernel_rfl
theorem Zew:((List.range 124).all fun i=>match Xl[i]? with|some o=>o.after.all (fun e=>decide (e.on<i)&&Region.binds .any e)|none=>false)=true:=by kernel_rfl
theorem XY:Xl.size=124:=by kernel_rfl
theorem Zcb:Qy.length=124:=by kernel_rfl
noncomputable def Yx(i:Nat)(d:D):Bool:=(List.range 124).any fun n=>decide (Qy[n]?=some d)&&Xs i n
noncomputable def chk(i:Nat):Bool:=
 match Qy[i]? with
 |some (.cof _d f m j s _ _ more)=>Yx i (.ld f 3 232 .of)&&Yx i (.sl s more)&&decide ((List.range 124).any (fun n=>decide (Qy[n]?=some (.mv m j))&&Xs i n&&((QM j).all fun x=>Xs n x.1)&&Yx n (.mk j false))=true)&&more.all (fun x=>decide (x<=12))&&decide (more.length<=1000)&&(Xg j).all (fun x=>decide (x.1<=12))&&decide ((j==15)=false)&&decide ((QM j).map (fun x=>x.2.1)=(Xg j).map (fun x=>(x.1:Int)))
 |some (.cot _d f m s _ _ more)=>Yx i (.ld f 3 232 .of)&&Yx i (.sl s more)&&Yx i (.mc m 6 .tr)&&more.all (fun x=>decide (x<=12))&&decide (more.length<=1000)
 |some (.cno _d f s _ _ more)=>Yx i (.ld f 3 232 .of)&&Yx i (.sl s more)&&more.all (fun x=>decide (x<=12))&&decide (more.length<=1000)
 |some (.cam _d f _)=>Yx i (.mc f 4 .amt)
 |some (.cco _d f x)=>Yx i (.mc f 5 .code)&&(List.range 124).any (fun n=>(match Qy[n]? with|some (.cof d' _ _ _ _ _ _ _)=>d'==x|_=>false)&&Xs i n)
 |some (.ins j big key src)=>Yx i (.mk j big)&&decide ((QM j).find? (fun y=>y.2.1==key)=some (i,key,src))&&decide (j<1000)&&(big||((Yx i (.ld src 1 230 .P)&&decide (Yj src=(true,false)))||(Yx i (.mc src 2 .L)&&decide (Yj src=(false,false)))||(Yx i (.cbt src)&&decide (Yj src=(false,true)))))&&decide (-9223372036854775808<=key/\key<=9223372036854775807)&&decide ((QM j).length<=50)
 |some (.mk j _)=>decide (j<1000)&&(QM j).all (fun x=>decide (∃big,big=(j==15)/\Qy[x.1]?=some (.ins j big x.2.1 x.2.2)))
 |some (.ld _ s T c)=>decide ((s=3/\T=232/\c=.of)\/(s=1/\T=230/\c=.P))
 |some (.mc _ s c)=>decide ((s=2/\c=.L)\/(s=4/\c=.amt)\/(s=5/\c=.code)\/(s=6/\c=.tr))
 |some (.sl _ l)=>decide (l∈[[0],[0,10],[1,2],[0,1],[0,11],[0,3,12]])
 |_=>true
theorem ZfL:((List.range 124).all chk)=true:=by kernel_rfl
theorem Zc9:((List.range 124).all fun k=>match Qy[k]? with|some e=>e.slots.all (fun s=>(List.range 124).all fun i=>match Qy[i]? with|some d=> !decide (d.dst=some s)||i==k||Xs k i|none=>true)|none=>true)=true:=by kernel_rfl
theorem ZfM:(Qy.all fun d=>match d.dst with|some s=>decide (s<105)&& !([1,2,3,4,5,6].contains s)|none=>true)=true:=by kernel_rfl
end
section
abbrev Qo(a:Act)(s:Nat):Value:=a.eval (.tmp s)
section
variable {o:Oper} {a:Act} {w:World} {K:Act->World->Prop} {Q:Exit->Act->World->Prop}
theorem ZiM{T:TypeId}(ho:o.op=.makeMap T none)(h:K (a.put o.dst (.map (some w.1.size))) (w.alloc (.map #[] 0))):o.wp Tryz.prog a w K Q:=by
 unfold Oper.wp;simp[execOp,ho,run_makeMap,Result.andThen]
 exact h
theorem Zcc{s:Nat}(ho:o.op=.move (.tmp s)\/o.op=.assign (.tmp s))(h:K (a.put o.dst (Qo a s)) w):o.wp Tryz.prog a w K Q:=by
 unfold Oper.wp
 rcases ho with ho|ho
 ·simp[execOp,ho]
  exact h
 ·simp[execOp,ho]
  exact h
theorem ZhS{s B:Nat}{T:TypeId}{v:Value}(hT:T=232\/T=230)(ho:o.op=.load T (.tmp s))(hs:Qo a s=.pointer (some ⟨B,0,none⟩))(hb:w.cell? ⟨B,0,none⟩=some v)(h:K (a.put o.dst v) w):o.wp Tryz.prog a w K Q:=by
 have e:(Instr.loadAt T (.pointer (some ⟨B,0,none⟩))).run Tryz.prog w=.ok v w:=by
  rcases hT with rfl|rfl<;>simp[go_sem,hb]
 unfold Oper.wp;simp[execOp,ho,hs,e,Result.andThen]
 exact h
theorem ZiN{l:List Nat}(hl:l∈[[0],[0,10],[1,2],[0,1],[0,11],[0,3,12]])(ho:o.op=.buildSlice 127 l.length (l.mapIdx fun i (x:Nat)=>(i,Operand.const (.int .i64 (x:Int)))).toArray)
 (h:K (a.put o.dst (.slice (some ⟨w.1.size,0,none⟩) l.length l.length)) (w.alloc (.cells (l.map (fun(x:Nat)=>Value.int .i64 (x:Int))).toArray 3))):o.wp Tryz.prog a w K Q:=by
 unfold Oper.wp;simp only[List.mem_cons,List.mem_nil_iff,or_false] at hl
 rcases hl with rfl|rfl|rfl|rfl|rfl|rfl
 all_goals
  simp[execOp,ho,go_sem,Act.eval,Result.andThen]
  exact h
theorem Zii{T:TypeId}{j src b:Nat}{key:Int}{w':World}(ho:o.op=.insert T (.tmp j) (.const (.int .i64 key)) (.tmp src))(hj:Qo a j=.map (some b))(hr:(Instr.mapUpdate T (.map (some b)) (.int .i64 key) (Qo a src)).run Tryz.prog w=.ok () w')(h:K (a.put o.dst undef) w'):o.wp Tryz.prog a w K Q:=by
 unfold Oper.wp;have e:a.eval (.const (.int .i64 key))=.int .i64 key:=rfl;simp[execOp,ho,hj,e,hr,Result.andThen]
 exact h
theorem Yg{c:Call}{f:FuncId}{args:Array Value}(ho:o.op=.call c)(hc:∀w,(do let d <-resolve a.eval c o.type;invoke d.target d.args:Sem Next).run Tryz.prog w=.ok (.enter f args) w){R:Ending->World->Prop}(hR:Calls Tryz.prog f args w R)(h:∀e w',R e w'->∃v,e=.returned v/\K (a.put o.dst v) w'):o.wp Tryz.prog a w K Q:=by
 unfold Oper.wp
 have e:(execOp a.eval o).run Tryz.prog w=.ok (.enter f args) w:=by
  unfold execOp;rw[ho];exact hc w
 rw[e];refine hR.mono fun e w' he=> ?_
 obtain⟨v,rfl,hk⟩:=h e w' he
 exact hk
end
end
end Go.Proofs.YtokjnjdbnabchaaGreatDoor
