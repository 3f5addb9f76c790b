/- Fo, Fq. -/
import Derived.Test.YtokjnjdbnabchaaGreatDoorQGEp13
import Derived.Carry
set_option maxRecDepth 100000
set_option maxHeartbeats 4000000
namespace Go.Proofs.YtokjnjdbnabchaaGreatDoor
open Go.Lib renaming hid→jq
open Go.RowKit Go.Shelf
section
attribute [local go_sem] Oper.semAt_some
attribute [local go_sem ↓] Go.wp_at_zero Go.wp_at_succ Yy JM
theorem ZbK(word:List UInt8)(cls:Int)(p:Nat->Bool)(mv:Value):(kB word cls p mv false).setIfInBounds 16 (.bool true)=kB word cls p mv true:=rfl
theorem ZeH(word:List UInt8)(cls:Int)(p:Nat->Bool)(mv:Value)(hm:mv.oneCell'=true)(w:World)(hp:Env w):
 Calls Tryz.prog 205 #[.agg (kB word cls p mv false)] w fun e w'=>e=.returned (.agg (kB word cls p mv true))/\Below w.1.size w w':=by
 obtain⟨pa,ha⟩:∃pa,pa=kB word cls p mv false:=⟨_,rfl⟩
 obtain⟨pb,hb⟩:∃pb,pb=kB word cls p mv true:=⟨_,rfl⟩
 have a1:pa.size=17:=by rw[ha];rfl
 have b1:pb.size=17:=by rw[hb];rfl
 have b2:pb.all (·.oneCell')=true:=by rw[hb];exact Yj _ _ _ _ _ hm
 have a3:pa[16]?=some (.bool false):=by rw[ha];rfl
 have a4:pa.setIfInBounds 16 (.bool true)=pb:=by rw[ha,hb];exact ZbK _ _ _ _
 rw[<-ha,<-hb];have H1:=(Kp.start hp).new w.1.size rfl pa 182;have H2:=jq (H1.new (w.1.size+1) (by simp) #[.string ⟨#[]⟩,.int .i64 0,.bool false,.bool false,.bool false,.bool false,.bool false,.bool false,.bool false,.bool false,.bool false,.bool false,.bool false,.bool false,.bool false,.map none,.bool false] 182);clear H1 ha hb hm hp;go_enter Tryz.func205,Tryz.ntmps205
 go_upto_region 1 with (fail)
 generalize (w.alloc (.cells pa 182)).alloc (.cells #[.string ⟨#[]⟩,.int .i64 0,.bool false,.bool false,.bool false,.bool false,.bool false,.bool false,.bool false,.bool false,.bool false,.bool false,.bool false,.bool false,.bool false,.map none,.bool false] 182)=W at*;have c0:=H2.out.c 1 16 rfl a3;have f0:=H2.out.f 1 16 rfl;have H3:=jq (H2.out.set 1 16 rfl (.bool true));rw[a4] at H3;have hl:=Jw (H3.out.at_ 1 rfl) b1;have hst:=Yk (pb:=pb) (H3.out.at_ 0 rfl) rfl b1 b2;have HR:=jq (H3.out.row 0 rfl pb);go_wp2_with fail
 have hrl:=run_loadVar_row (P:=Tryz.prog) _ (w.1.size+1) 182 182 pb (0,0) _ (HR.out.at_ 0 rfl) Tryz.underlying182 rfl (by rw[b1];kernel_rfl);refine bodyPost_ret (v:=.agg pb) (by simp[results,Tryz.results205,asAddr,hrl]) rfl ?_;exact⟨rfl,HR.out.bl⟩
theorem ZiO(w:World)(l:List Nat)(cs:Array Value)(hc:cs.toList=l.flatMap I1):Sl I1 1 (w.alloc (.cells cs 3)) (w.alloc (.cells cs 3)).heap.size (some ⟨w.1.size,0,none⟩) l.length l:=by
 have:=Sl.lit w cs 3 l hc ZfP
 simpa using this
theorem LimB.row{W:World}{b n g:Nat}{nums:List (Nat×Bool×Bool)}{old:Array Value}(h:LimB W b n nums)(hg:BlkB W g old 182)(c:Array Value):LimB (W.setRow g c) b n nums:=by
 obtain⟨m,h1,h2⟩:=h
 have hbox:∀B u,Box W B 4 u->Box (W.setRow g c) B 4 u:=fun B u hB=>by
  refine(QK W g c (fun e=> ?_)).trans hB;subst e;unfold Box at hB;unfold BlkB at hg;rw[hB] at hg;injection hg with hg;injection hg with _ hg _;exact absurd hg (by decide)
 refine⟨m,?_,h2.here fun v p q ⟨b1,b2,e,x1,x2⟩=>⟨b1,b2,e,hbox _ _ x1,hbox _ _ x2⟩⟩;have hne:b≠g:=fun e=>by subst e;exact h1.noCells _ _ _ hg
 obtain⟨D,⟨es,clock,e1,e2⟩,e3⟩:=h1
 exact⟨D,⟨es,clock,(QK W g c hne).trans e1,e2⟩,e3⟩
theorem Zcy(word:List UInt8)(cl:Value)(B1 B3:Nat)(w:World)(hp:Env w)(h3:Box w B3 232 (.func (.func 203) #[] #[]))(h1:Box w B1 230 cl)(hc:LimV w cl true false):
 Calls Tryz.prog 204 #[S word,.pointer (some ⟨B3,0,none⟩),.pointer (some ⟨B1,0,none⟩)] w fun e w'=>∃nb,e=.returned (.agg (kB word 2 (KRow.has ⟨2,[(5,true,false)],[2],false⟩) (.map (some nb)) false))/\w.1.size<=nb/\LimM w' (.map (some nb)) [(5,true,false)]/\Below w.1.size w w':=by
 have hmm:= @run_makeMap Tryz.prog;have H1:=jq ((Kp.start hp).new w.1.size rfl #[.string ⟨#[]⟩,.int .i64 0,.bool false,.bool false,.bool false,.bool false,.bool false,.bool false,.bool false,.bool false,.bool false,.bool false,.bool false,.bool false,.bool false,.map none,.bool false] 182);obtain⟨b1,b2,hcl,hb1,hb2⟩:=hc
 subst hcl;have HC:=jq (show LimV w _ true false from⟨b1,b2,rfl,hb1,hb2⟩);have x3:=(h3.alloc (.cells #[.string ⟨#[]⟩,.int .i64 0,.bool false,.bool false,.bool false,.bool false,.bool false,.bool false,.bool false,.bool false,.bool false,.bool false,.bool false,.bool false,.bool false,.map none,.bool false] 182)).cell;have x1:=((h1.alloc (.cells #[.string ⟨#[]⟩,.int .i64 0,.bool false,.bool false,.bool false,.bool false,.bool false,.bool false,.bool false,.bool false,.bool false,.bool false,.bool false,.bool false,.bool false,.map none,.bool false] 182)).alloc (.map #[] 0)).cell;clear h3 h1 hb1 hb2 hp;unfold S;obtain⟨W1,hp1,hn1,hg1⟩:=(Za2 (w.alloc (.cells #[.string ⟨#[]⟩,.int .i64 0,.bool false,.bool false,.bool false,.bool false,.bool false,.bool false,.bool false,.bool false,.bool false,.bool false,.bool false,.bool false,.bool false,.map none,.bool false] 182))).put (i:=5) 5 rfl (by omega) (by omega) ((HC.out.here (W':=(w.alloc (.cells #[.string ⟨#[]⟩,.int .i64 0,.bool false,.bool false,.bool false,.bool false,.bool false,.bool false,.bool false,.bool false,.bool false,.bool false,.bool false,.bool false,.bool false,.map none,.bool false] 182)).alloc (.map #[] 0)) (((Below.refl _ _).alloc (Nat.le_refl _) _).alloc (by simp) _))) rfl
 rw[World.size_alloc] at hp1 hn1 hg1
 have HK1:=jq ((H1.out.alloc (.map #[] 0)).grow hg1 (by omega) (fun q hq=>by
  simp only[List.mem_cons,List.mem_nil_iff,or_false] at hq;subst hq;simp only;omega))
 have HN1:=jq hn1;have HK2:=jq (HK1.out.alloc (.cells #[.int .i64 2] 3));have HKO:=jq (JE word 2 (some (w.1.size+1)) [(5,true,false)] (some ⟨W1.1.size,0,none⟩) 1 1 [2] (W1.alloc (.cells #[.int .i64 2] 3)) HK2.out.pw (.inr ⟨_,_,rfl,hn1.here ((Below.refl _ _).alloc (Nat.le_refl _) _)⟩) (by decide) (ZiO W1 [2] _ rfl) (by decide) (by omega));obtain⟨pb,hpb⟩:∃pb,pb=kB word 2 (KRow.has ⟨2,[(5,true,false)],[2],false⟩) (.map (some (w.1.size+1))) false:=⟨_,rfl⟩
 rw[show(fun i=>[(5,true,false)].any (fun x=>x.1==i)||[2].contains i)=KRow.has ⟨2,[(5,true,false)],[2],false⟩ from rfl,<-hpb] at HKO;have p1:pb.size=17:=by rw[hpb];rfl
 have p2:pb.all (·.oneCell')=true:=by rw[hpb];exact Yj _ _ _ _ _ rfl
 have HPB:=jq hpb;clear hpb hn1 hg1;unfold S at*
 go_enter Tryz.func204,Tryz.ntmps204
 go_wp2_with fail
 refine HKO.out.mono ?_;rintro e w2 ⟨rfl,hb2⟩;have HK3:=jq (HK2.out.here hb2);have hst:=Yk (pb:=pb) (HK3.out.at_ 0 rfl) rfl p1 p2;have HR:=jq (HK3.out.row 0 rfl pb);have HLM:=jq ((HN1.out.here ((Below.refl _ _).alloc (Nat.le_refl _) (.cells #[.int .i64 2] 3))).here hb2);clear p2 hb2;go_wp2_with fail
 have hrl:=run_loadVar_row (P:=Tryz.prog) _ w.1.size 182 182 pb (0,0) _ (HR.out.at_ 0 rfl) Tryz.underlying182 rfl (by rw[p1];kernel_rfl);refine bodyPost_ret (v:=.agg pb) (by simp[results,Tryz.results204,asAddr,hrl]) rfl ?_;exact⟨_,by rw[HPB.out],by omega,.inr ⟨_,_,rfl,HLM.out.row (HK3.out.at_ 0 rfl) pb⟩,HR.out.bl⟩
end
section
attribute [local go_sem] Oper.semAt_some
attribute [local go_sem ↓] Go.wp_at_zero Go.wp_at_succ Yy JM
theorem VY{b:Nat}{W V V':World}(h:Below W.1.size W V)(hg:V.grownBy V' (some b))(hb:W.1.size<=b):Below W.1.size W V':=
 Xb h hg h.size (fun g e=>by injection e with e;omega)
theorem Kp.growM{w W W':World}{bs:List (Nat×Array Value×TypeId)}{p n:Nat}{m:Int->Option Value}(h:Kp w bs W)(hm:ImB W p n m)(hg:W.grownBy W' (some p))(hp:w.1.size<=p):Kp w bs W':=
 h.grow hg hp (fun b hb e=>by subst e;exact hm.noCells _ _ _ (h.blk b hb))
def KindB(bm:Nat)(W:World)(v:Value)(r:KRow):Prop:=∃word mv,v=.agg (kB word r.cls r.has mv r.code)/\LimM W mv r.nums/\mv≠ .map (some bm)
theorem KindB.here{bm:Nat}{W W':World}{v:Value}{r:KRow}(h:KindB bm W v r)(hb:Below W.1.size W W'):KindB bm W' v r:=by
 obtain⟨word,mv,h1,h2,h3⟩:=h
 exact⟨word,mv,h1,h2.here hb,h3⟩
theorem KindB.grown{bm n:Nat}{W W':World}{v:Value}{r:KRow}{m:Int->Option Value}(h:KindB bm W v r)(hm:ImB W bm n m)(hg:W.grownBy W' (some bm)):KindB bm W' v r:=by
 obtain⟨word,mv,h1,h2,h3⟩:=h
 refine⟨word,mv,h1,?_,h3⟩
 rcases h2 with h2|⟨b,k,rfl,h2⟩
 ·exact .inl h2
 ·exact .inr ⟨b,k,rfl,h2.grown hm hg (fun e=>h3 (by rw[e]))⟩
theorem KindB.code{bm:Nat}{W:World}{pb pc:Array Value}{word:List UInt8}{cls:Int}{nums:List (Nat×Bool×Bool)}{more:List Nat}{mv:Value}(h:KindB bm W (.agg pb) ⟨cls,nums,more,false⟩)(hb:pb=kB word cls (KRow.has ⟨cls,nums,more,false⟩) mv false)
 (hc:pc=kB word cls (KRow.has ⟨cls,nums,more,false⟩) mv true):KindB bm W (.agg pc) ⟨cls,nums,more,true⟩:=by
 obtain⟨word',mv',h1,h2,h3⟩:=h
 rw[hb] at h1;injection h1 with h1
 have e:mv=mv':=by
  have:=congrArg (fun a:Array Value=>a[15]?) h1
  simpa[kB] using this
 subst e;exact⟨word,mv,by rw[hc];rfl,h2,h3⟩
def RowsB(W:World)(bm n:Nat)(l:List (Int×KRow)):Prop:=
 ∃m,ImB W bm n m/\∀k:Int,match l.find? (fun x=>x.1==k) with|some x=>∃v,m k=some v/\KindB bm W v x.2|none=>m k=none
theorem RowsB.lt{W:World}{bm n:Nat}{l:List (Int×KRow)}(h:RowsB W bm n l):bm<W.1.size:=h.elim fun _ h=>h.1.lt
theorem RowsB.here{W W':World}{bm n:Nat}{l:List (Int×KRow)}(h:RowsB W bm n l)(hb:Below W.1.size W W'):RowsB W' bm n l:=by
 obtain⟨m,h1,h2⟩:=h
 refine⟨m,h1.here hb,fun k=> ?_⟩;have:=h2 k
 split<;>rename_i e<;>rw[e] at this
 ·obtain⟨v,a,b⟩:=this;exact⟨v,a,b.here hb⟩
 ·exact this
theorem RowsB.put{W:World}{bm n:Nat}{l:List (Int×KRow)}{v:Value}{r:KRow}(h:RowsB W bm n l)(k0:Int)(hv:KindB bm W v r)(hx:l.all (fun x=>x.1 !=k0)=true)(hn:n<100)(h1: -9223372036854775808<=k0)(h2:k0<=9223372036854775807):
 ∃W',(Instr.mapUpdate 184 (.map (some bm)) (.int .i64 k0) v).run Tryz.prog W=.ok () W'/\RowsB W' bm (n+1) (l++[(k0,r)])/\W.grownBy W' (some bm):=by
 obtain⟨m,hm,hr⟩:=h
 obtain⟨W',he,hm',hg⟩:=hm.put (t:=184) (k:=k0) Tryz.underlying184 (by unfold maxLen;omega) h1 h2 v
 refine⟨W',he,⟨_,hm',fun k=> ?_⟩,hg⟩;have h4:=hr k;rw[List.find?_append]
 by_cases e:k=k0
 ·subst e
  have hf:l.find? (fun x=>x.1==k)=none:=by
   rw[List.find?_eq_none];intro x hx';have:=List.all_eq_true.1 hx x hx'
   simpa using this
  rw[hf,List.find?_cons_of_pos (by simp)];exact⟨v,by simp,hv.grown hm hg⟩
 ·rw[List.find?_cons_of_neg (by simp only[beq_iff_eq];exact fun h=>e h.symm),List.find?_nil];simp only[if_neg e]
  cases hf:l.find? (fun x=>x.1==k)<;>rw[hf] at h4
  ·exact h4
  ·obtain⟨v',a,b⟩:=h4;exact⟨v',a,b.grown hm hg⟩
structure KSt (w V:World) (B1 B3 bm bt n:Nat) (clP clL:Value) (l:List (Int×KRow)):Prop where
 k:Kp w [(B3,#[.func (.func 203) #[] #[]],232),(B1,#[clP],230)] V
 p:LimV V clP true false
 q:LimV V clL false false
 t:LimB V bt 3 [(4,true,false),(5,false,false),(6,false,false)]
 r:RowsB V bm n l
 ge:w.1.size<=bm
 ne:bt≠bm
section
variable {w V V':World} {B1 B3 bm bt n:Nat} {clP clL:Value} {l:List (Int×KRow)}
theorem KSt.here(h:KSt w V B1 B3 bm bt n clP clL l)(hb:Below V.1.size V V'):KSt w V' B1 B3 bm bt n clP clL l:=⟨h.k.here hb,h.p.here hb,h.q.here hb,h.t.here hb,h.r.here hb,h.ge,h.ne⟩
theorem KSt.put{v:Value}{r:KRow}(h:KSt w V B1 B3 bm bt n clP clL l)(k0:Int)(hv:KindB bm V v r)(hx:l.all (fun x=>x.1 !=k0)=true)(hn:n<100)(h1: -9223372036854775808<=k0)(h2:k0<=9223372036854775807):
 ∃V',(Instr.mapUpdate 184 (.map (some bm)) (.int .i64 k0) v).run Tryz.prog V=.ok () V'/\KSt w V' B1 B3 bm bt (n+1) clP clL (l++[(k0,r)]):=by
 obtain⟨V',he,hr,hg⟩:=h.r.put k0 hv hx hn h1 h2
 obtain⟨m,hm,_⟩:=h.r
 exact⟨V',he,h.k.growM hm hg h.ge,h.p.grown hg hm.noCells,h.q.grown hg hm.noCells,h.t.grown hm hg h.ne,hr,h.ge,h.ne⟩
end
def Vi:List (Int×KRow):=[(1,⟨2,[(5,true,false)],[2],false⟩),(2,⟨2,[(5,true,false)],[2],false⟩),(3,⟨3,[(4,true,false),(5,false,false),(6,false,false)],[0],false⟩),(4,⟨3,[(4,true,false),(5,false,false),(6,false,false)],[0,10],false⟩),(5,⟨1,[(7,true,false)],[0],false⟩),(6,⟨2,[(5,true,false)],[2],false⟩),(7,⟨2,[(4,true,false),(5,true,false)],[1,2],true⟩),(8,⟨1,[(7,false,false),(8,true,false)],[0],false⟩),(9,⟨1,[(7,false,false),(8,true,false),(9,false,true)],[0,1],false⟩),(10,⟨1,[],[0,11],false⟩),(11,⟨4,[],[0,3,12],false⟩),(12,⟨3,[(4,true,false),(7,false,false),(8,true,false)],[0,1],false⟩),(13,⟨1,[(7,true,false)],[0],false⟩),(14,⟨1,[(7,false,false)],[0],false⟩),(15,⟨4,[(7,false,false)],[0],false⟩),(16,⟨4,[(8,true,false)],[1,2],true⟩),(17,⟨2,[(5,true,false)],[2],false⟩),(18,⟨2,[(5,true,false)],[2],false⟩)]
theorem ZeI(k:Int):(Vi.find? (fun x=>x.1==k)).map (·.2)=Xv k:=by
 by_cases h:1<=k/\k<=18
 ·have:k=1\/k=2\/k=3\/k=4\/k=5\/k=6\/k=7\/k=8\/k=9\/k=10\/k=11\/k=12\/k=13\/k=14\/k=15\/k=16\/k=17\/k=18:=by omega
  rcases this with rfl|rfl|rfl|rfl|rfl|rfl|rfl|rfl|rfl|rfl|rfl|rfl|rfl|rfl|rfl|rfl|rfl|rfl<;>rfl
 ·have e1:Vi.find? (fun x=>x.1==k)=none:=by
   rw[List.find?_eq_none];intro x hx;have:∀x∈Vi,1<=x.1/\x.1<=18:=by decide
   have:=this x hx
   simp only[beq_iff_eq];omega
  rw[e1];unfold Xv
  split<;>first|omega|rfl
end
end Go.Proofs.YtokjnjdbnabchaaGreatDoor
