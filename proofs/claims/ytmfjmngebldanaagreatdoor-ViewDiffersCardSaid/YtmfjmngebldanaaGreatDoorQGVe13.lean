/- Fo, Fq, Fr1, Fr2, Fr3, Fr4, Fr5. -/
import Derived.Test.YtmfjmngebldanaaGreatDoorQGVe12
import Derived.Carry
set_option maxRecDepth 100000
set_option maxHeartbeats 4000000
namespace Go.Proofs.YtmfjmngebldanaaGreatDoor
open Go.Lib renaming hid→jq
open Go.RowKit Go.Shelf
section
attribute [local go_sem] Oper.semAt_some
attribute [local go_sem ↓] Go.wp_at_zero Go.wp_at_succ VV ZbW
theorem Zd4(word:List UInt8)(cls:Int)(p:Nat->Bool)(mv:Value):(kB word cls p mv false).setIfInBounds 16 (.bool true)=kB word cls p mv true:=rfl
theorem Zh6(word:List UInt8)(cls:Int)(p:Nat->Bool)(mv:Value)(hm:mv.oneCell'=true)(w:World)(hp:Env w):
 Calls Tryz.prog 110 #[.agg (kB word cls p mv false)] w fun e w'=>e=.returned (.agg (kB word cls p mv true))/\Below w.1.size w w':=by
 obtain⟨pa,ha⟩:∃pa,pa=kB word cls p mv false:=⟨_,rfl⟩
 obtain⟨pb,hb⟩:∃pb,pb=kB word cls p mv true:=⟨_,rfl⟩
 have a1:pa.size=17:=by rw[ha];rfl
 have b1:pb.size=17:=by rw[hb];rfl
 have b2:pb.all (·.oneCell')=true:=by rw[hb];exact VB _ _ _ _ _ hm
 have a3:pa[16]?=some (.bool false):=by rw[ha];rfl
 have a4:pa.setIfInBounds 16 (.bool true)=pb:=by rw[ha,hb];exact Zd4 _ _ _ _
 rw[<-ha,<-hb];have H1:=(Kp.start hp).new w.1.size rfl pa 104;have H2:=jq (H1.new (w.1.size+1) (by simp) #[.string ⟨#[]⟩,.int .i64 0,.bool false,.bool false,.bool false,.bool false,.bool false,.bool false,.bool false,.bool false,.bool false,.bool false,.bool false,.bool false,.bool false,.map none,.bool false] 104);clear H1 ha hb hm hp;go_enter Tryz.func110,Tryz.ntmps110
 go_upto_region 1 with (fail)
 generalize (w.alloc (.cells pa 104)).alloc (.cells #[.string ⟨#[]⟩,.int .i64 0,.bool false,.bool false,.bool false,.bool false,.bool false,.bool false,.bool false,.bool false,.bool false,.bool false,.bool false,.bool false,.bool false,.map none,.bool false] 104)=W at*;have c0:=H2.out.c 1 16 rfl a3;have f0:=H2.out.f 1 16 rfl;have H3:=jq (H2.out.set 1 16 rfl (.bool true));rw[a4] at H3;have hl:=ZbB (H3.out.at_ 1 rfl) b1;have hst:=VC (pb:=pb) (H3.out.at_ 0 rfl) rfl b1 b2;have HR:=jq (H3.out.row 0 rfl pb);go_wp2_with fail
 have hrl:=run_loadVar_row (P:=Tryz.prog) _ (w.1.size+1) 104 104 pb (0,0) _ (HR.out.at_ 0 rfl) Tryz.underlying104 rfl (by rw[b1];kernel_rfl);refine bodyPost_ret (v:=.agg pb) (by simp[results,Tryz.results110,asAddr,hrl]) rfl ?_;exact⟨rfl,HR.out.bl⟩
theorem ZnO(w:World)(l:List Nat)(cs:Array Value)(hc:cs.toList=l.flatMap I1):Sl I1 1 (w.alloc (.cells cs 3)) (w.alloc (.cells cs 3)).heap.size (some ⟨w.1.size,0,none⟩) l.length l:=by
 have:=Sl.lit w cs 3 l hc Zj2
 simpa using this
theorem LimB.row{W:World}{b n g:Nat}{nums:List (Nat×Bool×Bool)}{old:Array Value}(h:LimB W b n nums)(hg:BlkB W g old 104)(c:Array Value):LimB (W.setRow g c) b n nums:=by
 obtain⟨m,h1,h2⟩:=h
 have hbox:∀B u,Box W B 4 u->Box (W.setRow g c) B 4 u:=fun B u hB=>by
  refine(Xl W g c (fun e=> ?_)).trans hB;subst e;unfold Box at hB;unfold BlkB at hg;rw[hB] at hg;injection hg with hg;injection hg with _ hg _;exact absurd hg (by decide)
 refine⟨m,?_,h2.here fun v p q ⟨b1,b2,e,x1,x2⟩=>⟨b1,b2,e,hbox _ _ x1,hbox _ _ x2⟩⟩;have hne:b≠g:=fun e=>by subst e;exact h1.noCells _ _ _ hg
 obtain⟨D,⟨es,clock,e1,e2⟩,e3⟩:=h1
 exact⟨D,⟨es,clock,(Xl W g c hne).trans e1,e2⟩,e3⟩
theorem Ze1(word:List UInt8)(cl:Value)(B1 B3:Nat)(w:World)(hp:Env w)(h3:Box w B3 141 (.func (.func 108) #[] #[]))(h1:Box w B1 139 cl)(hc:LimV w cl true false):
 Calls Tryz.prog 109 #[S word,.pointer (some ⟨B3,0,none⟩),.pointer (some ⟨B1,0,none⟩)] w fun e w'=>∃nb,e=.returned (.agg (kB word 2 (KRow.has ⟨2,[(5,true,false)],[2],false⟩) (.map (some nb)) false))/\w.1.size<=nb/\LimM w' (.map (some nb)) [(5,true,false)]/\Below w.1.size w w':=by
 have hmm:= @run_makeMap Tryz.prog;have H1:=jq ((Kp.start hp).new w.1.size rfl #[.string ⟨#[]⟩,.int .i64 0,.bool false,.bool false,.bool false,.bool false,.bool false,.bool false,.bool false,.bool false,.bool false,.bool false,.bool false,.bool false,.bool false,.map none,.bool false] 104);obtain⟨b1,b2,hcl,hb1,hb2⟩:=hc
 subst hcl;have HC:=jq (show LimV w _ true false from⟨b1,b2,rfl,hb1,hb2⟩);have x3:=(h3.alloc (.cells #[.string ⟨#[]⟩,.int .i64 0,.bool false,.bool false,.bool false,.bool false,.bool false,.bool false,.bool false,.bool false,.bool false,.bool false,.bool false,.bool false,.bool false,.map none,.bool false] 104)).cell;have x1:=((h1.alloc (.cells #[.string ⟨#[]⟩,.int .i64 0,.bool false,.bool false,.bool false,.bool false,.bool false,.bool false,.bool false,.bool false,.bool false,.bool false,.bool false,.bool false,.bool false,.map none,.bool false] 104)).alloc (.map #[] 0)).cell;clear h3 h1 hb1 hb2 hp;unfold S;obtain⟨W1,hp1,hn1,hg1⟩:=(Zdq (w.alloc (.cells #[.string ⟨#[]⟩,.int .i64 0,.bool false,.bool false,.bool false,.bool false,.bool false,.bool false,.bool false,.bool false,.bool false,.bool false,.bool false,.bool false,.bool false,.map none,.bool false] 104))).put (i:=5) 5 rfl (by omega) (by omega) ((HC.out.here (W':=(w.alloc (.cells #[.string ⟨#[]⟩,.int .i64 0,.bool false,.bool false,.bool false,.bool false,.bool false,.bool false,.bool false,.bool false,.bool false,.bool false,.bool false,.bool false,.bool false,.map none,.bool false] 104)).alloc (.map #[] 0)) (((Below.refl _ _).alloc (Nat.le_refl _) _).alloc (by simp) _))) rfl
 rw[World.size_alloc] at hp1 hn1 hg1
 have HK1:=jq ((H1.out.alloc (.map #[] 0)).grow hg1 (by omega) (fun q hq=>by
  simp only[List.mem_cons,List.mem_nil_iff,or_false] at hq;subst hq;simp only;omega))
 have HN1:=jq hn1;have HK2:=jq (HK1.out.alloc (.cells #[.int .i64 2] 3));have HKO:=jq (ZbK word 2 (some (w.1.size+1)) [(5,true,false)] (some ⟨W1.1.size,0,none⟩) 1 1 [2] (W1.alloc (.cells #[.int .i64 2] 3)) HK2.out.pw (.inr ⟨_,_,rfl,hn1.here ((Below.refl _ _).alloc (Nat.le_refl _) _)⟩) (by decide) (ZnO W1 [2] _ rfl) (by decide) (by omega));obtain⟨pb,hpb⟩:∃pb,pb=kB word 2 (KRow.has ⟨2,[(5,true,false)],[2],false⟩) (.map (some (w.1.size+1))) false:=⟨_,rfl⟩
 rw[show(fun i=>[(5,true,false)].any (fun x=>x.1==i)||[2].contains i)=KRow.has ⟨2,[(5,true,false)],[2],false⟩ from rfl,<-hpb] at HKO;have p1:pb.size=17:=by rw[hpb];rfl
 have p2:pb.all (·.oneCell')=true:=by rw[hpb];exact VB _ _ _ _ _ rfl
 have HPB:=jq hpb;clear hpb hn1 hg1;unfold S at*
 go_enter Tryz.func109,Tryz.ntmps109
 go_wp2_with fail
 refine HKO.out.mono ?_;rintro e w2 ⟨rfl,hb2⟩;have HK3:=jq (HK2.out.here hb2);have hst:=VC (pb:=pb) (HK3.out.at_ 0 rfl) rfl p1 p2;have HR:=jq (HK3.out.row 0 rfl pb);have HLM:=jq ((HN1.out.here ((Below.refl _ _).alloc (Nat.le_refl _) (.cells #[.int .i64 2] 3))).here hb2);clear p2 hb2;go_wp2_with fail
 have hrl:=run_loadVar_row (P:=Tryz.prog) _ w.1.size 104 104 pb (0,0) _ (HR.out.at_ 0 rfl) Tryz.underlying104 rfl (by rw[p1];kernel_rfl);refine bodyPost_ret (v:=.agg pb) (by simp[results,Tryz.results109,asAddr,hrl]) rfl ?_;exact⟨_,by rw[HPB.out],by omega,.inr ⟨_,_,rfl,HLM.out.row (HK3.out.at_ 0 rfl) pb⟩,HR.out.bl⟩
end
section
attribute [local go_sem] Oper.semAt_some
attribute [local go_sem ↓] Go.wp_at_zero Go.wp_at_succ VV ZbW
theorem Za7{b:Nat}{W V V':World}(h:Below W.1.size W V)(hg:V.grownBy V' (some b))(hb:W.1.size<=b):Below W.1.size W V':=
 QK h hg h.size (fun g e=>by injection e with e;omega)
theorem Kp.growM{w W W':World}{bs:List (Nat×Array Value×TypeId)}{p n:Nat}{m:Int->Option Value}(h:Kp w bs W)(hm:ImB W p n m)(hg:W.grownBy W' (some p))(hp:w.1.size<=p):Kp w bs W':=
 h.grow hg hp (fun b hb e=>by subst e;exact hm.noCells _ _ _ (h.blk b hb))
def KindB(bm:Nat)(W:World)(v:Value)(r:KRow):Prop:=∃word mv,v=.agg (kB word r.cls r.has mv r.code)/\LimM W mv r.nums/\mv≠ .map (some bm)
theorem KindB.here{bm:Nat}{W W':World}{v:Value}{r:KRow}(h:KindB bm W v r)(hb:Below W.1.size W W'):KindB bm W' v r:=by
 obtain⟨word,mv,h1,h2,h3⟩:=h
 exact⟨word,mv,h1,h2.here hb,h3⟩
theorem KindB.grown{bm n:Nat}{W W':World}{v:Value}{r:KRow}{m:Int->Option Value}(h:KindB bm W v r)(hm:ImB W bm n m)(hg:W.grownBy W' (some bm)):KindB bm W' v r:=by
 obtain⟨word,mv,h1,h2,h3⟩:=h
 refine⟨word,mv,h1,?_,h3⟩
 rcases h2 with h2|⟨b,k,rfl,h2⟩
 ·exact .inl h2
 ·exact .inr ⟨b,k,rfl,h2.grown hm hg (fun e=>h3 (by rw[e]))⟩
theorem KindB.code{bm:Nat}{W:World}{pb pc:Array Value}{word:List UInt8}{cls:Int}{nums:List (Nat×Bool×Bool)}{more:List Nat}{mv:Value}(h:KindB bm W (.agg pb) ⟨cls,nums,more,false⟩)(hb:pb=kB word cls (KRow.has ⟨cls,nums,more,false⟩) mv false)
 (hc:pc=kB word cls (KRow.has ⟨cls,nums,more,false⟩) mv true):KindB bm W (.agg pc) ⟨cls,nums,more,true⟩:=by
 obtain⟨word',mv',h1,h2,h3⟩:=h
 rw[hb] at h1;injection h1 with h1
 have e:mv=mv':=by
  have:=congrArg (fun a:Array Value=>a[15]?) h1
  simpa[kB] using this
 subst e;exact⟨word,mv,by rw[hc];rfl,h2,h3⟩
def RowsB(W:World)(bm n:Nat)(l:List (Int×KRow)):Prop:=
 ∃m,ImB W bm n m/\∀k:Int,match l.find? (fun x=>x.1==k) with|some x=>∃v,m k=some v/\KindB bm W v x.2|none=>m k=none
theorem RowsB.lt{W:World}{bm n:Nat}{l:List (Int×KRow)}(h:RowsB W bm n l):bm<W.1.size:=h.elim fun _ h=>h.1.lt
theorem RowsB.here{W W':World}{bm n:Nat}{l:List (Int×KRow)}(h:RowsB W bm n l)(hb:Below W.1.size W W'):RowsB W' bm n l:=by
 obtain⟨m,h1,h2⟩:=h
 refine⟨m,h1.here hb,fun k=> ?_⟩;have:=h2 k
 split<;>rename_i e<;>rw[e] at this
 ·obtain⟨v,a,b⟩:=this;exact⟨v,a,b.here hb⟩
 ·exact this
theorem RowsB.put{W:World}{bm n:Nat}{l:List (Int×KRow)}{v:Value}{r:KRow}(h:RowsB W bm n l)(k0:Int)(hv:KindB bm W v r)(hx:l.all (fun x=>x.1 !=k0)=true)(hn:n<100)(h1: -9223372036854775808<=k0)(h2:k0<=9223372036854775807):
 ∃W',(Instr.mapUpdate 106 (.map (some bm)) (.int .i64 k0) v).run Tryz.prog W=.ok () W'/\RowsB W' bm (n+1) (l++[(k0,r)])/\W.grownBy W' (some bm):=by
 obtain⟨m,hm,hr⟩:=h
 obtain⟨W',he,hm',hg⟩:=hm.put (t:=106) (k:=k0) Tryz.underlying106 (by unfold maxLen;omega) h1 h2 v
 refine⟨W',he,⟨_,hm',fun k=> ?_⟩,hg⟩;have h4:=hr k;rw[List.find?_append]
 by_cases e:k=k0
 ·subst e
  have hf:l.find? (fun x=>x.1==k)=none:=by
   rw[List.find?_eq_none];intro x hx';have:=List.all_eq_true.1 hx x hx'
   simpa using this
  rw[hf,List.find?_cons_of_pos (by simp)];exact⟨v,by simp,hv.grown hm hg⟩
 ·rw[List.find?_cons_of_neg (by simp only[beq_iff_eq];exact fun h=>e h.symm),List.find?_nil];simp only[if_neg e]
  cases hf:l.find? (fun x=>x.1==k)<;>rw[hf] at h4
  ·exact h4
  ·obtain⟨v',a,b⟩:=h4;exact⟨v',a,b.grown hm hg⟩
structure KSt (w V:World) (B1 B3 bm bt n:Nat) (clP clL:Value) (l:List (Int×KRow)):Prop where
 k:Kp w [(B3,#[.func (.func 108) #[] #[]],141),(B1,#[clP],139)] V
 p:LimV V clP true false
 q:LimV V clL false false
 t:LimB V bt 3 [(4,true,false),(5,false,false),(6,false,false)]
 r:RowsB V bm n l
 ge:w.1.size<=bm
 ne:bt≠bm
section
variable {w V V':World} {B1 B3 bm bt n:Nat} {clP clL:Value} {l:List (Int×KRow)}
theorem KSt.here(h:KSt w V B1 B3 bm bt n clP clL l)(hb:Below V.1.size V V'):KSt w V' B1 B3 bm bt n clP clL l:=⟨h.k.here hb,h.p.here hb,h.q.here hb,h.t.here hb,h.r.here hb,h.ge,h.ne⟩
theorem KSt.put{v:Value}{r:KRow}(h:KSt w V B1 B3 bm bt n clP clL l)(k0:Int)(hv:KindB bm V v r)(hx:l.all (fun x=>x.1 !=k0)=true)(hn:n<100)(h1: -9223372036854775808<=k0)(h2:k0<=9223372036854775807):
 ∃V',(Instr.mapUpdate 106 (.map (some bm)) (.int .i64 k0) v).run Tryz.prog V=.ok () V'/\KSt w V' B1 B3 bm bt (n+1) clP clL (l++[(k0,r)]):=by
 obtain⟨V',he,hr,hg⟩:=h.r.put k0 hv hx hn h1 h2
 obtain⟨m,hm,_⟩:=h.r
 exact⟨V',he,h.k.growM hm hg h.ge,h.p.grown hg hm.noCells,h.q.grown hg hm.noCells,h.t.grown hm hg h.ne,hr,h.ge,h.ne⟩
end
def JO:List (Int×KRow):=[(1,⟨2,[(5,true,false)],[2],false⟩),(2,⟨2,[(5,true,false)],[2],false⟩),(3,⟨3,[(4,true,false),(5,false,false),(6,false,false)],[0],false⟩),(4,⟨3,[(4,true,false),(5,false,false),(6,false,false)],[0,10],false⟩),(5,⟨1,[(7,true,false)],[0],false⟩),(6,⟨2,[(5,true,false)],[2],false⟩),(7,⟨2,[(4,true,false),(5,true,false)],[1,2],true⟩),(8,⟨1,[(7,false,false),(8,true,false)],[0],false⟩),(9,⟨1,[(7,false,false),(8,true,false),(9,false,true)],[0,1],false⟩),(10,⟨1,[],[0,11],false⟩),(11,⟨4,[],[0,3,12],false⟩),(12,⟨3,[(4,true,false),(7,false,false),(8,true,false)],[0,1],false⟩),(13,⟨1,[(7,true,false)],[0],false⟩),(14,⟨1,[(7,false,false)],[0],false⟩),(15,⟨4,[(7,false,false)],[0],false⟩),(16,⟨4,[(8,true,false)],[1,2],true⟩),(17,⟨2,[(5,true,false)],[2],false⟩),(18,⟨2,[(5,true,false)],[2],false⟩)]
theorem Zh7(k:Int):(JO.find? (fun x=>x.1==k)).map (·.2)=QE k:=by
 by_cases h:1<=k/\k<=18
 ·have:k=1\/k=2\/k=3\/k=4\/k=5\/k=6\/k=7\/k=8\/k=9\/k=10\/k=11\/k=12\/k=13\/k=14\/k=15\/k=16\/k=17\/k=18:=by omega
  rcases this with rfl|rfl|rfl|rfl|rfl|rfl|rfl|rfl|rfl|rfl|rfl|rfl|rfl|rfl|rfl|rfl|rfl|rfl<;>rfl
 ·have e1:JO.find? (fun x=>x.1==k)=none:=by
   rw[List.find?_eq_none];intro x hx;have:∀x∈JO,1<=x.1/\x.1<=18:=by decide
   have:=this x hx
   simp only[beq_iff_eq];omega
  rw[e1];unfold QE
  split<;>first|omega|rfl
end
section
inductive Cst where|of|amt|code|P|L|tr
deriving DecidableEq
inductive D where
 |mk (j:Nat) (big:Bool)
 |ld (d s:Nat) (T:Nat) (c:Cst)
 |mc (d s:Nat) (c:Cst)
 |mv (d j:Nat)
 |asg (d j:Nat)
 |sl (d:Nat) (l:List Nat)
 |cof (d f m j s:Nat) (word:List UInt8) (cls:Int) (more:List Nat)
 |cot (d f m s:Nat) (word:List UInt8) (cls:Int) (more:List Nat)
 |cno (d f s:Nat) (word:List UInt8) (cls:Int) (more:List Nat)
 |cam (d f:Nat) (word:List UInt8)
 |cco (d f x:Nat)
 |cbt (d:Nat)
 |ins (j:Nat) (big:Bool) (key:Int) (src:Nat)
deriving DecidableEq
def D.dst:D->Option Nat
 | .mk j _=>some j| .ld d _ _ _=>some d| .mc d _ _=>some d| .mv d _=>some d| .asg d _=>some d| .sl d _=>some d| .cof d _ _ _ _ _ _ _=>some d| .cot d _ _ _ _ _ _=>some d
 | .cno d _ _ _ _ _=>some d| .cam d _ _=>some d| .cco d _ _=>some d| .cbt d=>some d| .ins _ _ _ _=>none
def D.slots:D->List Nat
 | .mk j _=>[j]| .ld d _ _ _=>[d]| .mc d _ _=>[d]| .mv d j=>[d,j]| .asg d j=>[d,j]| .sl d _=>[d]| .cof d _ m _ _ _ _ _=>[d,m]| .cot d _ _ _ _ _ _=>[d]
 | .cno d _ _ _ _ _=>[d]| .cam d _ _=>[d]| .cco d _ x=>[d,x]| .cbt d=>[d]| .ins _ _ _ src=>[src]
def D.op:D->Op
 | .mk _ big=>.makeMap (if big then 106 else 102) none
 | .ld _ s T _=>.load T (.tmp s)
 | .mc _ s _=>.move (.tmp s)
 | .mv _ j=>.move (.tmp j)
 | .asg _ j=>.assign (.tmp j)
 | .sl _ l=>.buildSlice 128 l.length (l.mapIdx fun i x=>(i,.const (.int .i64 (x:Int)))).toArray
 | .cof _ f m _ s word cls _=>.call {callee:=.value (.tmp f),args:=#[.const (.string ⟨word.toArray⟩),.const (.int .i64 cls),.tmp m,.tmp s],argTypes:=#[9,3,102,128]}
 | .cot _ f m s word cls _=>.call {callee:=.value (.tmp f),args:=#[.const (.string ⟨word.toArray⟩),.const (.int .i64 cls),.tmp m,.tmp s],argTypes:=#[9,3,102,128]}
 | .cno _ f s word cls _=>.call {callee:=.value (.tmp f),args:=#[.const (.string ⟨word.toArray⟩),.const (.int .i64 cls),.const (.map none),.tmp s],argTypes:=#[9,3,102,128]}
 | .cam _ f word=>.call {callee:=.value (.tmp f),args:=#[.const (.string ⟨word.toArray⟩)],argTypes:=#[9]}
 | .cco _ f x=>.call {callee:=.value (.tmp f),args:=#[.tmp x],argTypes:=#[104]}
 | .cbt _=>.call {callee:=.value (.func 107),args:=#[.const (.bool false),.const (.bool true)],argTypes:=#[4,4]}
 | .ins j big key src=>.insert (if big then 106 else 102) (.tmp j) (.const (.int .i64 key)) (.tmp src)
def ZaI(id:Nat):Code->Option (Array Oper)
 | .region k ops _=>if k==id then some ops else none
 | .seq a b=>match ZaI id a with|some x=>some x|none=>ZaI id b
 | .cond _ a b=>match ZaI id a with|some x=>some x|none=>ZaI id b
 | .block _ a=>ZaI id a
 | .loop a=>ZaI id a
 | .scope a=>ZaI id a
 |_=>none
noncomputable def Yg:Array Oper:=((Tryz.f72.body).bind (ZaI 6)).getD #[]
def QZ:List D:=[
 .mk 15 true,
 .mc 16 4 .amt,
 .cam 17 16 [100,101,112,111,115,105,116],
 .ins 15 true 1 17,
 .mc 18 4 .amt,
 .cam 19 18 [119,105,116,104,100,114,97,119],
 .ins 15 true 2 19,
 .ld 20 3 141 .of,
 .mc 21 6 .tr,
 .sl 22 [0],
 .cot 23 20 21 22 [98,117,121] 3 [0],
 .ins 15 true 3 23,
 .ld 24 3 141 .of,
 .mc 25 6 .tr,
 .sl 26 [0,10],
 .cot 27 24 25 26 [115,101,108,108] 3 [0,10],
 .ins 15 true 4 27,
 .ld 28 3 141 .of,
 .mk 29 false,
 .ld 30 1 139 .P,
 .ins 29 false 7 30,
 .mv 31 29,
 .sl 32 [0],
 .cof 33 28 31 29 32 [105,110,99,111,109,101] 1 [0],
 .ins 15 true 5 33,
 .mc 34 4 .amt,
 .cam 35 34 [101,120,112,101,110,115,101],
 .ins 15 true 6 35,
 .mc 36 5 .code,
 .ld 37 3 141 .of,
 .mk 38 false,
 .ld 39 1 139 .P,
 .ins 38 false 4 39,
 .ld 40 1 139 .P,
 .ins 38 false 5 40,
 .mv 41 38,
 .sl 42 [1,2],
 .cof 43 37 41 38 42 [99,111,110,118,101,114,116] 2 [1,2],
 .cco 44 36 43,
 .ins 15 true 7 44,
 .ld 45 3 141 .of,
 .mk 46 false,
 .mc 47 2 .L,
 .ins 46 false 7 47,
 .ld 48 1 139 .P,
 .ins 46 false 8 48,
 .mv 49 46,
 .sl 50 [0],
 .cof 51 45 49 46 50 [115,112,108,105,116] 1 [0],
 .ins 15 true 8 51,
 .ld 52 3 141 .of,
 .mk 53 false,
 .mc 54 2 .L,
 .ins 53 false 7 54,
 .ld 55 1 139 .P,
 .ins 53 false 8 55,
 .cbt 56,
 .ins 53 false 9 56,
 .mv 57 53,
 .sl 58 [0,1],
 .cof 59 52 57 53 58 [115,112,105,110,111,102,102] 1 [0,1],
 .ins 15 true 9 59,
 .ld 60 3 141 .of,
 .sl 61 [0,11],
 .cno 62 60 61 [101,120,99,104,97,110,103,101] 1 [0,11],
 .ins 15 true 10 62,
 .ld 63 3 141 .of,
 .sl 64 [0,3,12],
 .cno 65 63 64 [101,108,101,99,116] 4 [0,3,12],
 .ins 15 true 11 65,
 .ld 66 3 141 .of,
 .mk 67 false,
 .ld 68 1 139 .P,
 .ins 67 false 4 68,
 .mc 69 2 .L,
 .ins 67 false 7 69,
 .ld 70 1 139 .P,
 .ins 67 false 8 70,
 .mv 71 67,
 .sl 72 [0,1],
 .cof 73 66 71 67 72 [101,120,101,114,99,105,115,101] 3 [0,1],
 .ins 15 true 12 73,
 .ld 74 3 141 .of,
 .mk 75 false,
 .ld 76 1 139 .P,
 .ins 75 false 7 76,
 .mv 77 75,
 .sl 78 [0],
 .cof 79 74 77 75 78 [99,97,112,105,116,97,108] 1 [0],
 .ins 15 true 13 79,
 .ld 80 3 141 .of,
 .mk 81 false,
 .mc 82 2 .L,
 .ins 81 false 7 82,
 .mv 83 81,
 .sl 84 [0],
 .cof 85 80 83 81 84 [99,97,108,108] 1 [0],
 .ins 15 true 14 85,
 .ld 86 3 141 .of,
 .mk 87 false,
 .mc 88 2 .L,
 .ins 87 false 7 88,
 .mv 89 87,
 .sl 90 [0],
 .cof 91 86 89 87 90 [112,114,105,99,101] 4 [0],
 .ins 15 true 15 91,
 .mc 92 5 .code,
 .ld 93 3 141 .of,
 .mk 94 false,
 .ld 95 1 139 .P,
 .ins 94 false 8 95,
 .mv 96 94,
 .sl 97 [1,2],
 .cof 98 93 96 94 97 [114,97,116,101] 4 [1,2],
 .cco 99 92 98,
 .ins 15 true 16 99,
 .mc 100 4 .amt,
 .cam 101 100 [105,115,115,117,101],
 .ins 15 true 17 101,
 .mc 102 4 .amt,
 .cam 103 102 [99,97,110,99,101,108],
 .ins 15 true 18 103,
 .mv 104 15,
 .asg 0 104]
def Xy(j:Nat):List (Nat×Int×Nat):=
 match j with
 |15=>[(3,1,17),(6,2,19),(11,3,23),(16,4,27),(24,5,33),(27,6,35),(39,7,44),(49,8,51),(61,9,59),(65,10,62),(69,11,65),(81,12,73),(89,13,79),(97,14,85),(105,15,91),(115,16,99),(118,17,101),(121,18,103)]
 |29=>[(20,7,30)]
 |38=>[(32,4,39),(34,5,40)]
 |46=>[(43,7,47),(45,8,48)]
 |53=>[(53,7,54),(55,8,55),(57,9,56)]
 |67=>[(73,4,68),(75,7,69),(77,8,70)]
 |75=>[(85,7,76)]
 |81=>[(93,7,82)]
 |87=>[(101,7,88)]
 |94=>[(110,8,95)]
 |_=>[]
def VQ(s:Nat):Bool×Bool:=
 match s with
 |30=>(true,false)
 |39=>(true,false)
 |40=>(true,false)
 |47=>(false,false)
 |48=>(true,false)
 |54=>(false,false)
 |55=>(true,false)
 |56=>(false,true)
 |68=>(true,false)
 |69=>(false,false)
 |70=>(true,false)
 |76=>(true,false)
 |82=>(false,false)
 |88=>(false,false)
 |95=>(true,false)
 |_=>(false,false)
def XZ(j:Nat):List (Nat×Bool×Bool):=(Xy j).map fun x=>(x.2.1.toNat,VQ x.2.2)
noncomputable def Yu(i n:Nat):Bool:=match Yg[i]? with|some o=>o.after.any (fun e=>e.on==n)|none=>false
theorem Zj3:Yg.toList.map (fun o=>(o.dst,o.op,o.guard))=QZ.map (fun d=>(d.dst,d.op,none)):=by kernel_rfl
theorem Zia:((List.range 124).all fun i=>match Yg[i]? with|some o=>o.after.all (fun e=>decide (e.on<i)&&Region.binds .any e)|none=>false)=true:=by kernel_rfl
theorem Vt:Yg.size=124:=by kernel_rfl
theorem Ze2:QZ.length=124:=by kernel_rfl
noncomputable def Jk(i:Nat)(d:D):Bool:=(List.range 124).any fun n=>decide (QZ[n]?=some d)&&Yu i n
noncomputable def chk(i:Nat):Bool:=
 match QZ[i]? with
 |some (.cof _d f m j s _ _ more)=>Jk i (.ld f 3 141 .of)&&Jk i (.sl s more)&&decide ((List.range 124).any (fun n=>decide (QZ[n]?=some (.mv m j))&&Yu i n&&((Xy j).all fun x=>Yu n x.1)&&Jk n (.mk j false))=true)&&more.all (fun x=>decide (x<=12))&&decide (more.length<=1000)&&(XZ j).all (fun x=>decide (x.1<=12))&&decide ((j==15)=false)&&decide ((Xy j).map (fun x=>x.2.1)=(XZ j).map (fun x=>(x.1:Int)))
 |some (.cot _d f m s _ _ more)=>Jk i (.ld f 3 141 .of)&&Jk i (.sl s more)&&Jk i (.mc m 6 .tr)&&more.all (fun x=>decide (x<=12))&&decide (more.length<=1000)
 |some (.cno _d f s _ _ more)=>Jk i (.ld f 3 141 .of)&&Jk i (.sl s more)&&more.all (fun x=>decide (x<=12))&&decide (more.length<=1000)
 |some (.cam _d f _)=>Jk i (.mc f 4 .amt)
 |some (.cco _d f x)=>Jk i (.mc f 5 .code)&&(List.range 124).any (fun n=>(match QZ[n]? with|some (.cof d' _ _ _ _ _ _ _)=>d'==x|_=>false)&&Yu i n)
 |some (.ins j big key src)=>Jk i (.mk j big)&&decide ((Xy j).find? (fun y=>y.2.1==key)=some (i,key,src))&&decide (j<1000)&&(big||((Jk i (.ld src 1 139 .P)&&decide (VQ src=(true,false)))||(Jk i (.mc src 2 .L)&&decide (VQ src=(false,false)))||(Jk i (.cbt src)&&decide (VQ src=(false,true)))))&&decide (-9223372036854775808<=key/\key<=9223372036854775807)&&decide ((Xy j).length<=50)
 |some (.mk j _)=>decide (j<1000)&&(Xy j).all (fun x=>decide (∃big,big=(j==15)/\QZ[x.1]?=some (.ins j big x.2.1 x.2.2)))
 |some (.ld _ s T c)=>decide ((s=3/\T=141/\c=.of)\/(s=1/\T=139/\c=.P))
 |some (.mc _ s c)=>decide ((s=2/\c=.L)\/(s=4/\c=.amt)\/(s=5/\c=.code)\/(s=6/\c=.tr))
 |some (.sl _ l)=>decide (l∈[[0],[0,10],[1,2],[0,1],[0,11],[0,3,12]])
 |_=>true
theorem Zj4:((List.range 124).all chk)=true:=by kernel_rfl
theorem Zgb:((List.range 124).all fun k=>match QZ[k]? with|some e=>e.slots.all (fun s=>(List.range 124).all fun i=>match QZ[i]? with|some d=> !decide (d.dst=some s)||i==k||Yu k i|none=>true)|none=>true)=true:=by kernel_rfl
theorem Zj5:(QZ.all fun d=>match d.dst with|some s=>decide (s<105)&& !([1,2,3,4,5,6].contains s)|none=>true)=true:=by kernel_rfl
end
section
abbrev QN(a:Act)(s:Nat):Value:=a.eval (.tmp s)
section
variable {o:Oper} {a:Act} {w:World} {K:Act->World->Prop} {Q:Exit->Act->World->Prop}
theorem ZnP{T:TypeId}(ho:o.op=.makeMap T none)(h:K (a.put o.dst (.map (some w.1.size))) (w.alloc (.map #[] 0))):o.wp Tryz.prog a w K Q:=by
 unfold Oper.wp;simp[execOp,ho,run_makeMap,Result.andThen]
 exact h
theorem Ze3{s:Nat}(ho:o.op=.move (.tmp s)\/o.op=.assign (.tmp s))(h:K (a.put o.dst (QN a s)) w):o.wp Tryz.prog a w K Q:=by
 unfold Oper.wp
 rcases ho with ho|ho
 ·simp[execOp,ho]
  exact h
 ·simp[execOp,ho]
  exact h
theorem ZmM{s B:Nat}{T:TypeId}{v:Value}(hT:T=141\/T=139)(ho:o.op=.load T (.tmp s))(hs:QN a s=.pointer (some ⟨B,0,none⟩))(hb:w.cell? ⟨B,0,none⟩=some v)(h:K (a.put o.dst v) w):o.wp Tryz.prog a w K Q:=by
 have e:(Instr.loadAt T (.pointer (some ⟨B,0,none⟩))).run Tryz.prog w=.ok v w:=by
  rcases hT with rfl|rfl<;>simp[go_sem,hb]
 unfold Oper.wp;simp[execOp,ho,hs,e,Result.andThen]
 exact h
theorem ZnQ{l:List Nat}(hl:l∈[[0],[0,10],[1,2],[0,1],[0,11],[0,3,12]])(ho:o.op=.buildSlice 128 l.length (l.mapIdx fun i (x:Nat)=>(i,Operand.const (.int .i64 (x:Int)))).toArray)
 (h:K (a.put o.dst (.slice (some ⟨w.1.size,0,none⟩) l.length l.length)) (w.alloc (.cells (l.map (fun(x:Nat)=>Value.int .i64 (x:Int))).toArray 3))):o.wp Tryz.prog a w K Q:=by
 unfold Oper.wp;simp only[List.mem_cons,List.mem_nil_iff,or_false] at hl
 rcases hl with rfl|rfl|rfl|rfl|rfl|rfl
 all_goals
  simp[execOp,ho,go_sem,Act.eval,Result.andThen]
  exact h
theorem Zm7{T:TypeId}{j src b:Nat}{key:Int}{w':World}(ho:o.op=.insert T (.tmp j) (.const (.int .i64 key)) (.tmp src))(hj:QN a j=.map (some b))(hr:(Instr.mapUpdate T (.map (some b)) (.int .i64 key) (QN a src)).run Tryz.prog w=.ok () w')(h:K (a.put o.dst undef) w'):o.wp Tryz.prog a w K Q:=by
 unfold Oper.wp;have e:a.eval (.const (.int .i64 key))=.int .i64 key:=rfl;simp[execOp,ho,hj,e,hr,Result.andThen]
 exact h
theorem VJ{c:Call}{f:FuncId}{args:Array Value}(ho:o.op=.call c)(hc:∀w,(do let d <-resolve a.eval c o.type;invoke d.target d.args:Sem Next).run Tryz.prog w=.ok (.enter f args) w){R:Ending->World->Prop}(hR:Calls Tryz.prog f args w R)(h:∀e w',R e w'->∃v,e=.returned v/\K (a.put o.dst v) w'):o.wp Tryz.prog a w K Q:=by
 unfold Oper.wp
 have e:(execOp a.eval o).run Tryz.prog w=.ok (.enter f args) w:=by
  unfold execOp;rw[ho];exact hc w
 rw[e];refine hR.mono fun e w' he=> ?_
 obtain⟨v,rfl,hk⟩:=h e w' he
 exact hk
end
end
section
structure Cx where
 w0:World
 B1:Nat
 B3:Nat
 bt:Nat
 cP:Array Value
 cL:Array Value
def Cst.val(x:Cx):Cst->Value
 | .of=>.func (.func 108) #[] #[]
 | .amt=>.func (.func 109) #[] #[.pointer (some ⟨x.B3,0,none⟩),.pointer (some ⟨x.B1,0,none⟩)]
 | .code=>.func (.func 110) #[] #[]
 | .P=>.func (.func 136) #[] x.cP
 | .L=>.func (.func 136) #[] x.cL
 | .tr=>.map (some x.bt)
def Fact(x:Cx)(own:Nat->Nat)(a:Act)(w:World):D->Prop
 | .mk j _=>∃b,QN a j=.map (some b)/\own b=j/\x.w0.1.size<=b/\b<w.1.size
 | .ld d _ _ c=>QN a d=c.val x
 | .mc d _ c=>QN a d=c.val x
 | .mv d j=>QN a d=QN a j
 | .asg d j=>QN a d=QN a j
 | .sl d l=>∃q,QN a d=.slice (some ⟨q,0,none⟩) l.length l.length/\w.heap[q]?=some (.cells (l.map (fun(y:Nat)=>Value.int .i64 (y:Int))).toArray 3 (0,0))
 | .cof d _ m j _ word cls more=>QN a d=.agg (kB word cls (KRow.has ⟨cls,XZ j,more,false⟩) (QN a m) false)
 | .cot d _ _ _ word cls more=>QN a d=.agg (kB word cls (KRow.has ⟨cls,[(4,true,false),(5,false,false),(6,false,false)],more,false⟩) (.map (some x.bt)) false)
 | .cno d _ _ word cls more=>QN a d=.agg (kB word cls (KRow.has ⟨cls,[],more,false⟩) (.map none) false)
 | .cam d _ word=>∃nb n,QN a d=.agg (kB word 2 (KRow.has ⟨2,[(5,true,false)],[2],false⟩) (.map (some nb)) false)/\own nb=1000/\LimB w nb n [(5,true,false)]
 | .cco d _ y=>∃word cls p mv,QN a y=.agg (kB word cls p mv false)/\QN a d=.agg (kB word cls p mv true)
 | .cbt d=>LimV w (QN a d) false true
 | .ins _ big _ src=>big=false->LimV w (QN a src) (VQ src).1 (VQ src).2
structure Upd (own:Nat->Nat) (w w':World) (row:Option Nat):Prop where
 g:w.grownBy w' row
 r:∀b,row=some b->own b<1000/\∃n m,ImB w b n m
theorem Zbm{w w':World}(g:w.grownBy w' none):Below w.1.size w w':=⟨g.os,g.tape,g.output,g.size,fun k hk=>g.block k hk (by simp)⟩
section
variable {x:Cx} {own own':Nat->Nat} {a a':Act} {w w':World} {row:Option Nat}
theorem Upd.lim(hu:Upd own w w' row){v:Value}{p q:Bool}(h:LimV w v p q):LimV w' v p q:=by
 cases row with
 |none=>exact h.here (Zbm hu.g)
 |some b=>
  obtain⟨_,n,m,hm⟩:=hu.r b rfl
  exact h.grown hu.g hm.noCells
theorem Upd.limB(hu:Upd own w w' row){b n:Nat}{nums:List (Nat×Bool×Bool)}(h:LimB w b n nums)(ho:1000<=own b):LimB w' b n nums:=by
 cases row with
 |none=>exact h.here (Zbm hu.g)
 |some r=>
  obtain⟨h1,n',m,hm⟩:=hu.r r rfl
  exact h.grown hm hu.g (fun e=>by subst e;omega)
theorem Upd.imB(hu:Upd own w w' row){b n:Nat}{m:Int->Option Value}(h:ImB w b n m)(hne:some b≠row):ImB w' b n m:=h.grown hu.g hne
theorem Upd.cells(hu:Upd own w w' row){q:Nat}{cs:Array Value}{T:TypeId}{f:Nat×Nat}(h:w.heap[q]?=some (.cells cs T f)):w'.heap[q]?=some (.cells cs T f):=by
 refine(hu.g.block q (Array.getElem?_eq_some_iff.1 h).1 (fun e=> ?_)).trans h;obtain⟨_,n,m,hm⟩:=hu.r q e.symm
 exact hm.noCells _ _ _ h
theorem Fact.keep{d:D}(h:Fact x own a w d)(hs:∀s∈d.slots,QN a' s=QN a s)(hu:Upd own w w' row)(ho:∀b,b<w.1.size->own' b=own b):Fact x own' a' w' d:=by
 cases d with
 |mk j big=>
  obtain⟨b,h1,h2,h3,h4⟩:=h
  exact⟨b,by rw[hs j (by simp[D.slots])];exact h1,by rw[ho b h4];exact h2,h3,Nat.lt_of_lt_of_le h4 hu.g.size⟩
 |ld d s T c=>show QN a' d=_;rw[hs d (by simp[D.slots])];exact h
 |mc d s c=>show QN a' d=_;rw[hs d (by simp[D.slots])];exact h
 |mv d j=>show QN a' d=QN a' j;rw[hs d (by simp[D.slots]),hs j (by simp[D.slots])];exact h
 |asg d j=>show QN a' d=QN a' j;rw[hs d (by simp[D.slots]),hs j (by simp[D.slots])];exact h
 |sl d l=>
  obtain⟨q,h1,h2⟩:=h
  exact⟨q,by rw[hs d (by simp[D.slots])];exact h1,hu.cells h2⟩
 |cof d f m j s word cls more=>show QN a' d=.agg (kB _ _ _ (QN a' m) _);rw[hs d (by simp[D.slots]),hs m (by simp[D.slots])];exact h
 |cot d f m s word cls more=>show QN a' d=_;rw[hs d (by simp[D.slots])];exact h
 |cno d f s word cls more=>show QN a' d=_;rw[hs d (by simp[D.slots])];exact h
 |cam d f word=>
  obtain⟨nb,n,h1,h2,h3⟩:=h
  exact⟨nb,n,by rw[hs d (by simp[D.slots])];exact h1,by rw[ho nb h3.lt];exact h2,hu.limB h3 (by omega)⟩
 |cco d f y=>
  obtain⟨word,cls,p,mv,h1,h2⟩:=h
  exact⟨word,cls,p,mv,by rw[hs y (by simp[D.slots])];exact h1,by rw[hs d (by simp[D.slots])];exact h2⟩
 |cbt d=>show LimV w' (QN a' d) _ _;rw[hs d (by simp[D.slots])];exact hu.lim h
 |ins j big key src=>intro hb;rw[hs src (by simp[D.slots])];exact hu.lim (h hb)
end
def Zd5(l:Array Bool)(a:Act)(j:Nat)(k:Int):Option Value:=
 match (Xy j).find? (fun y=>y.2.1==k) with
 |some y=>if l.getD y.1 false=true then some (QN a y.2.2) else none
 |none=>none
def Zib(l:Array Bool)(j:Nat):Nat:=(Xy j).countP (fun y=>l.getD y.1 false)
def Zhg(x:Cx)(own:Nat->Nat)(l:Array Bool)(a:Act)(w:World)(j:Nat):Prop:=
 ∃b n m,QN a j=.map (some b)/\own b=j/\x.w0.1.size<=b/\n<=Zib l j/\ImB w b n m/\∀k,m k=Zd5 l a j k
structure RgI (x:Cx) (own:Nat->Nat) (l:Array Bool) (a:Act) (w:World):Prop where
 sz:l.size=124
 ts:a.tmps.size=105
 df:a.defers=[]
 k:Kp x.w0 [(x.B3,#[.func (.func 108) #[] #[]],141),(x.B1,#[.func (.func 136) #[] x.cP],139)] w
 p:LimV w (.func (.func 136) #[] x.cP) true false
 q:LimV w (.func (.func 136) #[] x.cL) false false
 t:LimB w x.bt 3 [(4,true,false),(5,false,false),(6,false,false)]
 ot:own x.bt=2000
 i1:QN a 1=.pointer (some ⟨x.B1,0,none⟩)
 i2:QN a 2=Cst.L.val x
 i3:QN a 3=.pointer (some ⟨x.B3,0,none⟩)
 i4:QN a 4=Cst.amt.val x
 i5:QN a 5=Cst.code.val x
 i6:QN a 6=Cst.tr.val x
 cl:∀i n,Yu i n=true->l.getD i false=true->l.getD n false=true
 f:∀i d,QZ[i]?=some d->l.getD i false=true->Fact x own a w d
 c:∀i j big,QZ[i]?=some (.mk j big)->l.getD i false=true->Zhg x own l a w j
theorem Xq{i:Nat}{d:D}(h:QZ[i]?=some d):i<124:=by have:=(List.getElem?_eq_some_iff.1 h).1;rwa [Ze2] at this
theorem QT{i:Nat}{o:Oper}{d:D}(ho:Yg[i]?=some o)(hd:QZ[i]?=some d):o.dst=d.dst/\o.op=d.op/\o.guard=none:=by
 have h:=congrArg (fun L:List (Option Tmp×Op×Option (Nat×Bool))=>L[i]?) Zj3;simp only[List.getElem?_map,Array.getElem?_toList,ho,hd,Option.map_some,Option.some.injEq,Prod.mk.injEq] at h;exact h
theorem Zhh{i:Nat}{o:Oper}(ho:Yg[i]?=some o):∃d,QZ[i]?=some d:=by
 have hi:=(Array.getElem?_eq_some_iff.1 ho).1;rw[Vt] at hi;exact⟨QZ[i]'(by rw[Ze2];exact hi),List.getElem?_eq_getElem _⟩
theorem Zj6{i n:Nat}{o:Oper}(ho:Yg[i]?=some o)(h:Yu i n=true):∃e∈o.after,e.on=n:=by
 unfold Yu at h;rw[ho] at h;simp only[<-Array.any_toList,List.any_eq_true] at h;obtain⟨e,he,hn⟩:=h
 exact⟨e,by simpa using he,by simpa using hn⟩
theorem Zdr{i:Nat}{o:Oper}(ho:Yg[i]?=some o){e:Edge}(he:e∈o.after):e.on<i/\Region.binds .any e=true:=by
 have hi:=(Array.getElem?_eq_some_iff.1 ho).1;rw[Vt] at hi;have h:=List.all_eq_true.1 Zia i (List.mem_range.2 hi);rw[ho] at h;simp only[Array.all_eq_true_iff_forall_mem,Bool.and_eq_true,decide_eq_true_eq] at h;exact h e he
theorem Xz{i:Nat}{d:D}(hd:QZ[i]?=some d):chk i=true:=List.all_eq_true.1 Zj4 i (List.mem_range.2 (Xq hd))
theorem Za9{i:Nat}{d:D}(h:Jk i d=true):∃n,QZ[n]?=some d/\Yu i n=true:=by
 unfold Jk at h;obtain⟨n,_,hn⟩:=List.any_eq_true.1 h
 simp only[Bool.and_eq_true,decide_eq_true_eq] at hn;exact⟨n,hn.1,hn.2⟩
theorem Zhi{k i s:Nat}{e d:D}(hk:QZ[k]?=some e)(hd:QZ[i]?=some d)(hs:s∈e.slots)(h:d.dst=some s):i=k\/Yu k i=true:=by
 have h1:=List.all_eq_true.1 Zgb k (List.mem_range.2 (Xq hk));rw[hk] at h1;have h2:=List.all_eq_true.1 (List.all_eq_true.1 h1 s hs) i (List.mem_range.2 (Xq hd));rw[hd] at h2;simpa[h] using h2
theorem Yy{i s:Nat}{d:D}(hd:QZ[i]?=some d)(h:d.dst=some s):s<105/\s≠1/\s≠2/\s≠3/\s≠4/\s≠5/\s≠6:=by
 have h1:=List.all_eq_true.1 Zj5 d (List.mem_of_getElem? hd);rw[h] at h1;simp at h1;omega
theorem XI{a:Act}{t:Option Nat}{v:Value}{s:Nat}(h:t≠some s):QN (a.put t v) s=QN a s:=by
 cases t with
 |none=>rfl
 |some t=>
  have:t≠s:=fun e=>h (by rw[e])
  show(a.tmps.setIfInBounds t v).getD s undef=a.tmps.getD s undef
  rw[Array.getD_eq_getD_getElem?,Array.getD_eq_getD_getElem?,Array.getElem?_setIfInBounds_ne this]
theorem QI{a:Act}{v:Value}{s:Nat}(h:s<a.tmps.size):QN (a.put (some s) v) s=v:=by
 show(a.tmps.setIfInBounds s v).getD s undef=v
 rw[Array.getD_eq_getD_getElem?,Array.getElem?_setIfInBounds_self_of_lt h];rfl
theorem YV{l:Array Bool}{i:Nat}(h:i<l.size):(l.setIfInBounds i true).getD i false=true:=by
 rw[Array.getD_eq_getD_getElem?,Array.getElem?_setIfInBounds_self_of_lt h];rfl
theorem QL{l:Array Bool}{i k:Nat}(h:k≠i):(l.setIfInBounds i true).getD k false=l.getD k false:=by
 rw[Array.getD_eq_getD_getElem?,Array.getD_eq_getD_getElem?,Array.getElem?_setIfInBounds_ne (Ne.symm h)]
end
section
theorem ZlX{l:Array Bool}{i:Nat}(hs:l.size=124)(hi:i<124)(h:l.getD i true=false):l.getD i false=false:=by
 rw[Array.getD_eq_getD_getElem?,Array.getElem?_eq_getElem (by omega)] at h ⊢;simpa using h
theorem Zj7{l:Array Bool}{i:Nat}(hi:i<l.size)(j:Nat):Zib l j<=Zib (l.setIfInBounds i true) j:=by
 unfold Zib;refine List.countP_mono_left fun y _ hy=> ?_
 by_cases e:y.1=i
 ·rw[e];exact YV hi
 ·rw[QL e];exact hy
theorem Zds{α:Type}{p q:α->Bool}:∀{L:List α} {y:α},y∈L->(∀z∈L,p z=true->q z=true)->p y=false->q y=true->L.countP p+1<=L.countP q
 |z::L,y,hy,hpq,h1,h2=>by
  rw[List.countP_cons,List.countP_cons];have hm:L.countP p<=L.countP q:=List.countP_mono_left fun a ha=>hpq a (List.mem_cons_of_mem _ ha)
  rcases List.mem_cons.1 hy with rfl|hy
  ·rw[h1,h2];simp;omega
  ·have:=Zds hy (fun a ha=>hpq a (List.mem_cons_of_mem _ ha)) h1 h2
   have hz:=hpq z List.mem_cons_self
   cases hpz:p z
   ·simp;omega
   ·rw[hz hpz];simp;omega
section
variable {x:Cx} {own own':Nat->Nat} {l:Array Bool} {a:Act} {w w':World} {row:Option Nat} {i:Nat} {o:Oper} {d:D} {v:Value}
theorem RgI.keepSv(h:RgI x own l a w)(ho:Yg[i]?=some o)(hd:QZ[i]?=some d)(hl:l.getD i false=false)(v:Value){k:Nat}{e:D}(hk:QZ[k]?=some e)(hlk:l.getD k false=true):∀s∈e.slots,QN (a.put o.dst v) s=QN a s:=fun s hs=>by
 refine XI fun hds=> ?_
 rw[(QT ho hd).1] at hds
 rcases Zhi hk hd hs hds with rfl|hdp
 ·rw[hl] at hlk;cases hlk
 ·have:=h.cl k i hdp hlk
  rw[hl] at this;cases this
theorem RgI.next(h:RgI x own l a w)(ho:Yg[i]?=some o)(hd:QZ[i]?=some d)(hl:l.getD i false=false)(hdep:∀n,Yu i n=true->l.getD n false=true)(hu:Upd own w w' row)(hrow:∀b,row=some b->∃j big key src,d=.ins j big key src/\own b=j)
 (hoo:∀b,b<w.1.size->own' b=own b) (hk:Kp x.w0 [(x.B3,#[.func (.func 108) #[] #[]],141),(x.B1,#[.func (.func 136) #[] x.cP],139)] w') (hf:Fact x own' (a.put o.dst v) w' d)
 (hc:∀j,((∃big,d=.mk j big)\/∃big key src,d=.ins j big key src)->Zhg x own' (l.setIfInBounds i true) (a.put o.dst v) w' j):RgI x own' (l.setIfInBounds i true) (a.put o.dst v) w':=by
 have hi:i<l.size:=by rw[h.sz];exact Xq hd
 have hod:=(QT ho hd).1
 have hdst:∀s,s=1\/s=2\/s=3\/s=4\/s=5\/s=6->QN (a.put o.dst v) s=QN a s:=fun s hs=>XI fun e=>by
  rw[hod] at e;have:=Yy hd e
  omega
 refine⟨by simp[h.sz],?_,?_,hk,hu.lim h.p,hu.lim h.q,hu.limB h.t (by rw[h.ot];omega),by rw[hoo _ h.t.lt,h.ot],by rw[hdst 1 (by omega)];exact h.i1,by rw[hdst 2 (by omega)];exact h.i2,by rw[hdst 3 (by omega)];exact h.i3,by rw[hdst 4 (by omega)];exact h.i4,by rw[hdst 5 (by omega)];exact h.i5,by rw[hdst 6 (by omega)];exact h.i6,?_,?_,?_⟩
 ·have:=h.ts
  unfold Act.put
  cases o.dst<;>simpa using this
 ·have:=h.df
  unfold Act.put
  cases o.dst<;>simpa using this
 ·intro i' n hin hli
  by_cases en:n=i
  ·rw[en];exact YV hi
  ·rw[QL en]
   by_cases e:i'=i
   ·subst e;exact hdep n hin
   ·rw[QL e] at hli;exact h.cl i' n hin hli
 ·intro i' d' hd' hli
  by_cases e:i'=i
  ·subst e;rw[hd] at hd';injection hd' with hd'
   subst hd'
   exact hf
  ·rw[QL e] at hli;exact(h.f i' d' hd' hli).keep (h.keepSv ho hd hl v hd' hli) hu hoo
 ·intro i' j big hd' hli
  by_cases hcs:(∃big,d=.mk j big)\/∃big key src,d=.ins j big key src
  ·exact hc j hcs
  ·have e:i'≠i:=fun e=>by
    subst e;rw[hd] at hd';injection hd' with hd'
    exact hcs (.inl ⟨big,hd'⟩)
   rw[QL e] at hli;obtain⟨b,n,m,c1,c2,c3,c4,c5,c6⟩:=h.c i' j big hd' hli
   refine⟨b,n,m,by rw[h.keepSv ho hd hl v hd' hli j (by simp[D.slots])];exact c1,by rw[hoo b c5.lt];exact c2,c3,Nat.le_trans c4 (Zj7 hi j),hu.imB c5 (fun e2=> ?_),fun k=> ?_⟩
   ·obtain⟨j0,b0,key,src,e3,e4⟩:=hrow b e2.symm
    exact hcs (.inr ⟨b0,key,src,by rw[e3,<-e4,c2]⟩)
   ·rw[c6 k];unfold Zd5
    cases hfi:(Xy j).find? (fun y=>y.2.1==k) with
    |none=>rfl
    |some y=>
     have hm:=List.mem_of_find?_eq_some hfi;have hck:=Xz hd';unfold chk at hck;rw[hd'] at hck;simp only[Bool.and_eq_true,List.all_eq_true,decide_eq_true_eq] at hck;obtain⟨b0,_,hdy⟩:=hck.2 y hm
     have ey:y.1≠i:=fun e2=>by
      rw[e2,hd] at hdy;injection hdy with hdy;exact hcs (.inr ⟨_,_,_,hdy⟩)
     simp only;rw[QL ey]
     by_cases hly:l.getD y.1 false=true
     ·rw[if_pos hly,if_pos hly,h.keepSv ho hd hl v hdy hly y.2.2 (by simp[D.slots])]
     ·rw[if_neg hly,if_neg hly]
theorem RgI.plain(h:RgI x own l a w)(ho:Yg[i]?=some o)(hd:QZ[i]?=some d)(hl:l.getD i false=false)(hdep:∀n,Yu i n=true->l.getD n false=true)(hb:Below w.1.size w w')(hoo:∀b,b<w.1.size->own' b=own b)
 (hnm:(∀j big,d≠ .mk j big)/\∀j big key src,d≠ .ins j big key src) (hf:Fact x own' (a.put o.dst v) w' d):RgI x own' (l.setIfInBounds i true) (a.put o.dst v) w':=
 h.next ho hd hl hdep (row:=none) ⟨⟨hb.os,hb.tape,hb.output,hb.size,fun k hk _=>hb.block k hk⟩,fun b e=>by cases e⟩ (fun b e=>by cases e) hoo (h.k.here hb) hf (fun j hj=>by
   rcases hj with ⟨b,e⟩|⟨b,k,s,e⟩
   ·exact absurd e (hnm.1 j b)
   ·exact absurd e (hnm.2 j b k s))
end
end
section
def D.mapOf:D->Nat
 | .mk j _=>j
 | .ins j _ _ _=>j
 |_=>0
section
variable {x:Cx} {own:Nat->Nat} {l:Array Bool} {a:Act} {w:World} {i:Nat} {o:Oper} {Q:Exit->Act->World->Prop}
def Yh(x:Cx)(l:Array Bool)(i:Nat)(a':Act)(w':World):Prop:=∃own,RgI x own (l.setIfInBounds i true) a' w'
theorem RgI.fact(h:RgI x own l a w)(hdep:∀n,Yu i n=true->l.getD n false=true){e:D}(ha:Jk i e=true):Fact x own a w e:=by
 obtain⟨n,h1,h2⟩:=Za9 ha
 exact h.f n e h1 (hdep n h2)
theorem ZlY{j:Nat}{big:Bool}(h:RgI x own l a w)(ho:Yg[i]?=some o)(hd:QZ[i]?=some (.mk j big))(hl:l.getD i false=false)(hdep:∀n,Yu i n=true->l.getD n false=true):o.wp Tryz.prog a w (Yh x l i) Q:=by
 obtain⟨e1,e2,e3⟩:=QT ho hd
 have hj:j<a.tmps.size:=by rw[h.ts];exact(Yy hd rfl).1
 have e2':o.op=.makeMap (if big then 106 else 102) none:=e2;refine ZnP e2' ?_;refine⟨fun b=>if b=w.1.size then j else own b,?_⟩;have hsv:QN (a.put o.dst (.map (some w.1.size))) j=.map (some w.1.size):=by rw[e1];exact QI hj
 refine h.next ho hd hl hdep (row:=none) ⟨World.grownBy_alloc w _ none,fun b e=>by cases e⟩ (fun b e=>by cases e) (fun b hb=>if_neg (by omega)) (h.k.alloc _) ⟨w.1.size,hsv,if_pos rfl,h.k.bl.size,by simp⟩ (fun j' hj'=> ?_)
 have ej:j'=j:=by
  rcases hj' with ⟨b,e⟩|⟨b,k,s,e⟩
  ·exact(congrArg D.mapOf e).symm
  ·cases e
 subst ej;refine⟨w.1.size,0,fun _=>none,hsv,if_pos rfl,h.k.bl.size,Nat.zero_le _,Zhf w,fun k=> ?_⟩;unfold Zd5
 cases hfi:(Xy j').find? (fun y=>y.2.1==k) with
 |none=>rfl
 |some y=>
  have hm:=List.mem_of_find?_eq_some hfi;have hck:=Xz hd;unfold chk at hck;rw[hd] at hck;simp only[Bool.and_eq_true,List.all_eq_true,decide_eq_true_eq] at hck;obtain⟨b0,_,hdy⟩:=hck.2 y hm
  have ey:y.1≠i:=fun e=>by rw[e,hd] at hdy;cases hdy
  simp only;rw[QL ey]
  by_cases hly:l.getD y.1 false=true
  ·exfalso
   have hcy:=Xz hdy;unfold chk at hcy;rw[hdy] at hcy;simp only[Bool.and_eq_true] at hcy;obtain⟨n,hn1,hn2⟩:=Za9 hcy.1.1.1.1.1
   have hln:=h.cl y.1 n hn2 hly
   rcases Zhi hn1 hd (s:=j') (by simp[D.slots]) rfl with rfl|hdp
   ·rw[hl] at hln;cases hln
   ·have:=h.cl n i hdp hln
    rw[hl] at this;cases this
  ·rw[if_neg hly]
theorem ZlZ{d s T:Nat}{c:Cst}(h:RgI x own l a w)(ho:Yg[i]?=some o)(hd:QZ[i]?=some (.ld d s T c))(hl:l.getD i false=false)(hdep:∀n,Yu i n=true->l.getD n false=true):o.wp Tryz.prog a w (Yh x l i) Q:=by
 obtain⟨e1,e2,e3⟩:=QT ho hd
 have hj:d<a.tmps.size:=by rw[h.ts];exact(Yy hd rfl).1
 have hck:=Xz hd;unfold chk at hck;rw[hd] at hck;simp only[decide_eq_true_eq] at hck
 rcases hck with ⟨rfl,rfl,rfl⟩|⟨rfl,rfl,rfl⟩
 ·exact ZmM (.inl rfl) e2 h.i3 (h.k.c 0 0 rfl rfl) ⟨own,h.plain ho hd hl hdep (Below.refl _ _) (fun _ _=>rfl) ⟨(fun _ _ e=>by cases e),(fun _ _ _ _ e=>by cases e)⟩ (by rw[e1];exact QI hj)⟩
 ·exact ZmM (.inr rfl) e2 h.i1 (h.k.c 1 0 rfl rfl) ⟨own,h.plain ho hd hl hdep (Below.refl _ _) (fun _ _=>rfl) ⟨(fun _ _ e=>by cases e),(fun _ _ _ _ e=>by cases e)⟩ (by rw[e1];exact QI hj)⟩
theorem Zl0{d s:Nat}{c:Cst}(h:RgI x own l a w)(ho:Yg[i]?=some o)(hd:QZ[i]?=some (.mc d s c))(hl:l.getD i false=false)(hdep:∀n,Yu i n=true->l.getD n false=true):o.wp Tryz.prog a w (Yh x l i) Q:=by
 obtain⟨e1,e2,e3⟩:=QT ho hd
 have hj:d<a.tmps.size:=by rw[h.ts];exact(Yy hd rfl).1
 have hck:=Xz hd;unfold chk at hck;rw[hd] at hck;simp only[decide_eq_true_eq] at hck
 have hv:QN a s=c.val x:=by
  rcases hck with ⟨rfl,rfl⟩|⟨rfl,rfl⟩|⟨rfl,rfl⟩|⟨rfl,rfl⟩
  ·exact h.i2
  ·exact h.i4
  ·exact h.i5
  ·exact h.i6
 exact Ze3 (.inl e2) ⟨own,h.plain ho hd hl hdep (Below.refl _ _) (fun _ _=>rfl) ⟨(fun _ _ e=>by cases e),(fun _ _ _ _ e=>by cases e)⟩ (by rw[e1];exact(QI hj).trans hv)⟩
theorem Zhj{d j:Nat}(h:RgI x own l a w)(ho:Yg[i]?=some o)(hd:QZ[i]?=some (.mv d j)\/QZ[i]?=some (.asg d j))(hl:l.getD i false=false)(hdep:∀n,Yu i n=true->l.getD n false=true)(hne:d≠j):o.wp Tryz.prog a w (Yh x l i) Q:=by
 have hf:∀e,QZ[i]?=some e->e.dst=some d->QN (a.put o.dst (QN a j)) d=QN (a.put o.dst (QN a j)) j:=fun e hd he=>by
  have e1:=(QT ho hd).1;rw[e1,he,QI (by rw[h.ts];exact(Yy hd he).1),XI (by intro e;injection e with e;exact hne e)]
 rcases hd with hd|hd
 ·exact Ze3 (.inl (QT ho hd).2.1) ⟨own,h.plain ho hd hl hdep (Below.refl _ _) (fun _ _=>rfl) ⟨(fun _ _ e=>by cases e),(fun _ _ _ _ e=>by cases e)⟩ (hf _ hd rfl)⟩
 ·exact Ze3 (.inr (QT ho hd).2.1) ⟨own,h.plain ho hd hl hdep (Below.refl _ _) (fun _ _=>rfl) ⟨(fun _ _ e=>by cases e),(fun _ _ _ _ e=>by cases e)⟩ (hf _ hd rfl)⟩
theorem Zl1{d:Nat}{L:List Nat}(h:RgI x own l a w)(ho:Yg[i]?=some o)(hd:QZ[i]?=some (.sl d L))(hl:l.getD i false=false)(hdep:∀n,Yu i n=true->l.getD n false=true):o.wp Tryz.prog a w (Yh x l i) Q:=by
 obtain⟨e1,e2,e3⟩:=QT ho hd
 have hj:d<a.tmps.size:=by rw[h.ts];exact(Yy hd rfl).1
 have hck:=Xz hd;unfold chk at hck;rw[hd] at hck;simp only[decide_eq_true_eq] at hck;refine ZnQ hck e2 ⟨own,h.plain ho hd hl hdep ((Below.refl _ _).alloc (Nat.le_refl _) _) (fun _ _=>rfl) ⟨(fun _ _ e=>by cases e),(fun _ _ _ _ e=>by cases e)⟩ ?_⟩;exact⟨w.1.size,by rw[e1];exact QI hj,heap_alloc_new w _⟩
theorem Zj8{j src:Nat}{big:Bool}{key:Int}(h:RgI x own l a w)(ho:Yg[i]?=some o)(hd:QZ[i]?=some (.ins j big key src))(hl:l.getD i false=false)(hdep:∀n,Yu i n=true->l.getD n false=true):o.wp Tryz.prog a w (Yh x l i) Q:=by
 obtain⟨e1,e2,e3⟩:=QT ho hd
 have hi:i<l.size:=by rw[h.sz];exact Xq hd
 have hck:=Xz hd;unfold chk at hck;rw[hd] at hck;simp only[Bool.and_eq_true,decide_eq_true_eq] at hck;obtain⟨⟨⟨⟨⟨k1,k2⟩,k3⟩,k4⟩,k5⟩,k6⟩:=hck
 obtain⟨n0,hn1,hn2⟩:=Za9 k1
 obtain⟨b,n,m,c1,c2,c3,c4,c5,c6⟩:=h.c n0 j big hn1 (hdep n0 hn2)
 have hn:n<100:=by
  have h1:Zib l j<=(Xy j).length:=List.countP_le_length;omega
 have hput:∃w',(Instr.mapUpdate (if big then 106 else 102) (.map (some b)) (.int .i64 key) (QN a src)).run Tryz.prog w=.ok () w'/\ImB w' b (n+1) (fun k=>if k=key then some (QN a src) else m k)/\w.grownBy w' (some b):=by
  cases big
  ·exact c5.put (t:=102) Tryz.underlying102 (by unfold maxLen;omega) k5.1 k5.2 _
  ·exact c5.put (t:=106) Tryz.underlying106 (by unfold maxLen;omega) k5.1 k5.2 _
 obtain⟨w',hr,hm',hg⟩:=hput
 have hu:Upd own w w' (some b):=⟨hg,fun b' e=>by injection e with e;subst e;exact⟨by rw[c2];exact k3,n,m,c5⟩⟩;have hsv:∀s,QN (a.put o.dst undef) s=QN a s:=fun s=>XI (by rw[e1];simp[D.dst])
 have hmem:=List.mem_of_find?_eq_some k2;refine Zm7 e2 c1 hr ⟨own,h.next ho hd hl hdep hu (fun b' e=>by injection e with e;subst e;exact⟨j,big,key,src,rfl,c2⟩) (fun _ _=>rfl) (h.k.growM c5 hg c3) ?_ (fun j' hj'=> ?_)⟩
 ·intro hb;rw[hsv];rw[hb,Bool.false_or] at k4;simp only[Bool.or_eq_true,Bool.and_eq_true,decide_eq_true_eq] at k4
  rcases k4 with (⟨ha,e⟩|⟨ha,e⟩)|⟨ha,e⟩
  ·have hf:QN a src=_:=h.fact hdep ha;rw[hf,e];exact hu.lim h.p
  ·have hf:QN a src=_:=h.fact hdep ha;rw[hf,e];exact hu.lim h.q
  ·have hf:LimV w (QN a src) false true:=h.fact hdep ha;rw[e];exact hu.lim hf
 ·have ej:j'=j:=by
   rcases hj' with ⟨b,e⟩|⟨b,k,s,e⟩
   ·cases e
   ·exact(congrArg D.mapOf e).symm
  subst ej;refine⟨b,n+1,_,by rw[hsv];exact c1,c2,c3,?_,hm',fun k=> ?_⟩
  ·refine Nat.le_trans (Nat.succ_le_succ c4) ?_;unfold Zib;refine Zds hmem (fun z _ hz=> ?_) hl (YV hi)
   by_cases e:z.1=i
   ·rw[e];exact YV hi
   ·rw[QL e];exact hz
  ·by_cases ek:k=key
   ·subst ek;unfold Zd5;rw[k2];simp only;rw[YV hi,hsv];simp
   ·rw[if_neg ek,c6 k];unfold Zd5
    cases hfi:(Xy j').find? (fun y=>y.2.1==k) with
    |none=>rfl
    |some y=>
     have hm:=List.mem_of_find?_eq_some hfi;have hyk:y.2.1=k:=by have:=List.find?_some hfi;simpa using this
     have hcm:=Xz hn1;unfold chk at hcm;rw[hn1] at hcm;simp only[Bool.and_eq_true,List.all_eq_true,decide_eq_true_eq] at hcm;obtain⟨b0,_,hdy⟩:=hcm.2 y hm
     have ey:y.1≠i:=fun e=>by
      rw[e,hd] at hdy;injection hdy with hdy;injection hdy with _ _ e4 _;exact ek (by rw[<-hyk,<-e4])
     simp only;rw[QL ey,hsv]
end
end
end Go.Proofs.YtmfjmngebldanaaGreatDoor
