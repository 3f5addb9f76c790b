/- Fb1, Fb2, Vlg. -/
import Derived.Test.YtokjnjdbnabchaaGreatDoorQGEp34
set_option maxRecDepth 100000
set_option maxHeartbeats 8000000
namespace Go.Proofs.YtokjnjdbnabchaaGreatDoor
open Go.Lib renaming hid→jq
open Go.RowKit Go.Shelf
section
attribute [local go_sem] Oper.semAt_some
def Zd5(o:Oper):Option Nat×Op×List Nat:=(o.dst,o.op,(o.after.toList.filter (fun e=>Region.binds .any e)).map (·.on))
def Zba:List (Option Nat×Op×List Nat):=[
 (some 33,.call {callee:=.value (.func 148),args:=#[],argTypes:=#[]},[]),
 (some 34,.fieldAddr 44 (.tmp 1) 4,[]),
 (some 35,.load 3 (.tmp 34),[1]),
 (some 36,.lookup 184 (.tmp 33) (.tmp 35) true,[0,2]),
 (some 32,.move (.tmp 36),[3]),
 (some 37,.extract (.tmp 32) 0,[4]),
 (some 38,.extract (.tmp 32) 1,[4]),
 (some 3,.alloc 182,[]),
 (none,.store 182 (.tmp 3) (.tmp 37),[7,5,0,0,1,2,3,4,5,7]),
 (some 4,.assign (.tmp 38),[6,8,0,1,2,3,4,5,6,7,8])]
theorem Zir:Jl.toList.map Zd5=Zba:=by kernel_rfl
theorem Zgm:(Jl.toList.all fun o=>o.guard.isNone)=true:=by kernel_rfl
theorem JF:Jl.size=10:=by kernel_rfl
theorem Zh4{i:Nat}{o:Oper}(ho:Jl[i]?=some o):Zba[i]?=some (Zd5 o):=by
 rw[<-Zir,List.getElem?_map,Array.getElem?_toList,ho];rfl
theorem ZhE(i:Nat)(o:Oper)(ho:Jl[i]?=some o):o.guard=none:=by
 have h:=List.all_eq_true.1 Zgm o (by rw[Array.mem_toList_iff];exact Array.mem_of_getElem? ho);simpa using h
theorem ZhF(i:Nat)(o:Oper)(ho:Jl[i]?=some o)(e:Edge)(he:e∈o.after)(hb:Region.binds .any e=true):e.on<i:=by
 have h:=Zh4 ho;have hm:e.on∈(Zd5 o).2.2:=List.mem_map.2 ⟨e,List.mem_filter.2 ⟨by rw[Array.mem_toList_iff];exact he,hb⟩,rfl⟩
 have hall:∀(j:Nat) (r:Option Nat×Op×List Nat),Zba[j]?=some r->∀n∈r.2.2,n<j:=by
  intro j r hj n hn
  match j,hj with
  |0,hj|1,hj|2,hj|3,hj|4,hj|5,hj|6,hj|7,hj|8,hj|9,hj=>
   simp only[Zba,List.getElem?_cons_zero,List.getElem?_cons_succ,Option.some.injEq] at hj;subst hj;simp at hn<;>omega
  |j+10,hj=>simp[Zba] at hj
 exact hall i _ h _ hm
section
variable {o:Oper} {a:Act} {w w':World} {K:Act->World->Prop} {Q:Exit->Act->World->Prop}
theorem Jb{v:Value}(h:(execOp a.eval o).run Tryz.prog w=.ok (.value v) w')(hk:K (a.put o.dst v) w'):o.wp Tryz.prog a w K Q:=by
 unfold Oper.wp;rw[h];exact hk
end
theorem JG{a:Act}{s:Nat}{v:Value}(h:Qo a s=v):a.tmps[s]?.getD undef=v:=by
 rw[<-Array.getD_eq_getD_getElem?];exact h
theorem ZhG{w:World}{k:Int}{fb:Array Value}{l:Array Bool}{a:Act}{W:World}{Q:Exit->Act->World->Prop}(h:CkI w k fb l a W)(hk:I64 k)(hfb:fb[4]?=some (.int .i64 k))(i:Nat)(o:Oper)(ho:Jl[i]?=some o)(hl:l.getD i true=false)
 (hdep:∀e∈o.after,Region.binds .any e=true->l.getD e.on false=true):o.wp Tryz.prog a W (fun a' W'=>CkI w k fb (l.setIfInBounds i true) a' W') Q:=by
 have hdp:∀n∈(Zd5 o).2.2,l.getD n false=true:=by
  intro n hn;obtain⟨e,he,rfl⟩:=List.mem_map.1 hn
  obtain⟨h1,h2⟩:=List.mem_filter.1 he
  exact hdep e (by rw[Array.mem_toList_iff] at h1;exact h1) h2
 have hr:=Zh4 ho;have hil:i<10:=by rw[<-JF];exact(Array.getElem?_eq_some_iff.1 ho).1
 have hts:=h.ts;clear hdep ho;unfold Zba at hr;have hc:i=0\/i=1\/i=2\/i=3\/i=4\/i=5\/i=6\/i=7\/i=8\/i=9:=by omega
 rcases hc with rfl|rfl|rfl|rfl|rfl|rfl|rfl|rfl|rfl|rfl
 all_goals
  simp only[List.getElem?_cons_zero,List.getElem?_cons_succ,Option.some.injEq] at hr;have e1:o.dst=_:=(congrArg (·.1) hr).symm;have e2:o.op=_:=(congrArg (·.2.1) hr).symm;have e3:=congrArg (·.2.2) hr;simp only at e1 e2 e3
  rw[<-e3] at hdp;clear hr e3
 ·refine Yo (f:=148) (args:=#[]) e2 (fun W=> ?_) (Za9 W h.kp.pw) ?_
  ·have en:∀args w,(callFunc 148 args).run Tryz.prog w=.ok (.enter 148 args) w:=enters_of Tryz.func148 (by kernel_rfl) rfl;simp[resolve,invoke,Za7,Deferred.ofValue,en]
  ·rintro e w' ⟨bm,rfl,hb,hbl⟩;refine⟨_,rfl,?_⟩;rw[e1];exact h.next 0 (by omega) (by omega) _ hbl ⟨bm,Ql (by omega),fun _=>hb⟩
 ·refine Jb (v:=.pointer (some ⟨w.1.size,4,none⟩)) (w':=W) ?_ ?_
  ·unfold execOp;rw[e2];have h1:=JG h.s1;simp[h1,go_sem]
  ·rw[e1];exact h.next 1 (by omega) (by omega) _ (Below.refl _ _) (Ql (by omega))
 ·refine Jb (v:=.int .i64 k) (w':=W) ?_ ?_
  ·unfold execOp;rw[e2];have h1:Qo a 34=.pointer (some ⟨w.1.size,4,none⟩):=h.f 1 (by omega) (hdp 1 (by simp));have h2:=h.kp.c 0 4 rfl hfb;have h1':=JG h1;simp[h1',go_sem,h2]
  ·rw[e1];exact h.next 2 (by omega) (by omega) _ (Below.refl _ _) (Ql (by omega))
 ·obtain⟨bm,h1,h2⟩:=h.f 0 (by omega) (hdp 0 (by simp))
  have h3:Qo a 35=.int .i64 k:=h.f 2 (by omega) (hdp 2 (by simp))
  have hl3:l.getD 3 false=false:=by
   rw[Array.getD_eq_getD_getElem?,Array.getElem?_eq_getElem (by have:=h.sz;omega)] at hl ⊢;simpa using hl
  obtain⟨kb,h4,h5⟩:=(h2 hl3).look hk
  refine Jb (v:=.tuple #[.agg kb,.bool (Xv k).isSome]) (w':=W) ?_ ?_
  ·unfold execOp;rw[e2];unfold Qo at h1 h3;simp[h1,h3,h4,Result.andThen]
  ·rw[e1];exact h.next 3 (by omega) (by omega) _ (Below.refl _ _) ⟨kb,Ql (by omega),h5⟩
 ·obtain⟨kb,h1,h2⟩:=h.f 3 (by omega) (hdp 3 (by simp))
  refine ZcA (s:=36) (.inl e2) ?_;rw[e1,h1];exact h.next 4 (by omega) (by omega) _ (Below.refl _ _) ⟨kb,Ql (by omega),h2⟩
 ·obtain⟨kb,h1,h2⟩:=h.f 4 (by omega) (hdp 4 (by simp))
  refine Jb (v:=.agg kb) (w':=W) ?_ ?_
  ·unfold execOp;rw[e2];have h1':=JG h1;simp[h1',go_sem]
  ·rw[e1];exact h.next 5 (by omega) (by omega) _ (Below.refl _ _) ⟨kb,Ql (by omega),h2⟩
 ·obtain⟨kb,h1,h2⟩:=h.f 4 (by omega) (hdp 4 (by simp))
  refine Jb (v:=.bool (Xv k).isSome) (w':=W) ?_ ?_
  ·unfold execOp;rw[e2];have h1':=JG h1;simp[h1',go_sem]
  ·rw[e1];exact h.next 6 (by omega) (by omega) _ (Below.refl _ _) (Ql (by omega))
 ·refine Jb (v:=.pointer (some ⟨W.1.size,0,none⟩)) (w':=W.alloc (.cells kZ 182)) ?_ ?_
  ·unfold execOp;rw[e2];simp[go_sem]
   rfl
  ·rw[e1];refine h.next 7 (by omega) (by omega) _ ((Below.refl _ _).alloc (Nat.le_refl _) _) ⟨W.1.size,kZ,Ql (by omega),h.kp.lt 0 rfl,heap_alloc_new W _,rfl,fun h8=> ?_⟩
   exfalso
   rw[Qn (by omega)] at h8;have h7:l.getD 7 false=true:=h.f 8 (by omega) h8;rw[Array.getD_eq_getD_getElem?,Array.getElem?_eq_getElem (by have:=h.sz;omega)] at hl h7;simp at hl h7;rw[hl] at h7
   cases h7
 ·obtain⟨g,cs,h1,h2,h3,h4,h5⟩:=h.f 7 (by omega) (hdp 7 (by simp))
  obtain⟨kb,h6,h7⟩:=h.f 5 (by omega) (hdp 5 (by simp))
  have hst:=Yk (w:=W) h3 h4 h7.size h7.cell;unfold stK at hst;unfold Oper.wp;unfold Qo at h1 h6;simp[execOp,e2,h1,h6,hst,Result.andThen]
  show CkI w k fb (l.setIfInBounds 8 true) (a.put o.dst undef) (W.setRow g kb)
  rw[e1];exact h.store (hdp 3 (by simp)) (hdp 7 (by simp)) h7 h3 h1 h2 undef
 ·have h1:Qo a 38=.bool (Xv k).isSome:=h.f 6 (by omega) (hdp 6 (by simp));refine ZcA (s:=38) (.inr e2) ?_;rw[e1,h1];exact h.next 9 (by omega) (by omega) _ (Below.refl _ _) (Ql (by omega))
theorem Zdv(l:List Value):l=(List.range l.length).map (fun i=>l[i]?.getD undef):=by
 refine List.ext_getElem? fun i=> ?_
 rw[List.getElem?_map]
 rcases Nat.lt_or_ge i l.length with h|h
 ·rw[List.getElem?_range h,List.getElem?_eq_getElem h];simp[h]
 ·rw[List.getElem?_eq_none h,List.getElem?_eq_none (by simpa using h)];rfl
theorem Zis(l:List Value)(h:l.length=60):∃f:Nat->Value,l=[f 0,f 1,f 2,f 3,f 4,f 5,f 6,f 7,f 8,f 9,f 10,f 11,f 12,f 13,f 14,f 15,f 16,f 17,f 18,f 19,f 20,f 21,f 22,f 23,f 24,f 25,f 26,f 27,f 28,f 29,f 30,f 31,f 32,f 33,f 34,f 35,f 36,f 37,f 38,f 39,f 40,f 41,f 42,f 43,f 44,f 45,f 46,f 47,f 48,f 49,f 50,f 51,f 52,f 53,f 54,f 55,f 56,f 57,f 58,f 59]/\∀i,f i=l[i]?.getD undef:=by
 have e:=Zdv l;rw[h] at e;exact⟨fun i=>l[i]?.getD undef,e,fun _=>rfl⟩
theorem CkI.done{w:World}{k:Int}{fb:Array Value}{l:Array Bool}{a:Act}{W:World}(h:CkI w k fb l a W)(hall:∀i,i<10->l.getD i false=true):
 ∃(f:Nat->Value) (g:Nat) (kb:Array Value),a=⟨[f 0,f 1,f 2,f 3,f 4,f 5,f 6,f 7,f 8,f 9,f 10,f 11,f 12,f 13,f 14,f 15,f 16,f 17,f 18,f 19,f 20,f 21,f 22,f 23,f 24,f 25,f 26,f 27,f 28,f 29,f 30,f 31,f 32,f 33,f 34,f 35,f 36,f 37,f 38,f 39,f 40,f 41,f 42,f 43,f 44,f 45,f 46,f 47,f 48,f 49,f 50,f 51,f 52,f 53,f 54,f 55,f 56,f 57,f 58,f 59].toArray,[]⟩/\f 1=.pointer (some ⟨w.1.size,0,none⟩)/\f 3=.pointer (some ⟨g,0,none⟩)/\f 4=.bool (Xv k).isSome/\KOk W k kb/\Kp w [(g,kb,182),(w.1.size,fb,44)] W:=by
 obtain⟨g,cs,h1,h2,h3,h4,h5⟩:=h.f 7 (by omega) (hall 7 (by omega))
 have h6:Qo a 4=.bool (Xv k).isSome:=h.f 9 (by omega) (hall 9 (by omega));have ht:=h.ts;have hd:=h.df;have hs:=h.s1;obtain⟨⟨ts⟩,df⟩:=a
 simp only at hd ht
 subst hd;obtain⟨f,e,hf⟩:=Zis ts (by simpa using ht)
 have hsv:∀i,f i=Qo ⟨⟨ts⟩,[]⟩ i:=fun i=>by
  rw[hf i]
  show _=(⟨ts⟩:Array Value).getD i undef
  rw[Array.getD_eq_getD_getElem?];simp
 refine⟨f,g,cs,?_,(hsv 1).trans hs,(hsv 3).trans h1,(hsv 4).trans h6,h5 (hall 8 (by omega)),?_⟩
 ·rw[<-e]
 ·refine⟨h.kp.pow,h.kp.bl,fun b hb=> ?_,?_,fun b hb=> ?_⟩
  ·rcases List.mem_cons.1 hb with rfl|hb
   ·exact Nat.le_of_lt h2
   ·exact h.kp.own b hb
  ·refine .cons (fun b hb=> ?_) h.kp.ord;simp only[List.map_cons,List.map_nil,List.mem_singleton] at hb;subst hb;exact fun e=>by simp only at e;omega
  ·rcases List.mem_cons.1 hb with rfl|hb
   ·exact h3
   ·exact h.kp.blk b hb
end
section
attribute [local go_sem] Oper.semAt_some
attribute [local go_sem ↓] Go.wp_at_zero Go.wp_at_succ Qs Yy
theorem Zgo{k:Int}{r:KRow}(h:Xv k=some r)(i:Nat)(h1:4<=i)(h2:i<=9)(hi:r.has i=true):∃y,r.nums.find? (fun x=>x.1==i)=some y:=by
 have hc:i=4\/i=5\/i=6\/i=7\/i=8\/i=9:=by omega
 unfold Xv at h
 split at h<;>first|cases h;done|(injection h with h;subst h;rcases hc with rfl|rfl|rfl|rfl|rfl|rfl<;>first|exact⟨_,rfl⟩|exact absurd hi (by decide))
theorem ZeP(f:Fct)(v:FaV)(r:KRow)(k:Int)(hr:Xv k=some r)(word:List UInt8)(mv:Value)(i:Nat)(hi:i<=12)(hh:r.has i=true)(w:World)(hp:Env w)(hf:f.Sz 1000)(hl:LimM w mv r.nums)(hm:FaM w w.1.size f v)(hpn:v.pn<=100000)(hon:v.on<=100000):
 Calls Tryz.prog 149 #[.agg (Qe f v),.agg (kB word r.cls r.has mv r.code),.int .i64 (i:Int)] w fun e w'=>e=.returned (.int .i64 (XW f r i))/\Below w.1.size w w':=by
 by_cases h:4<=i/\i<=9
 ·obtain⟨y,hy⟩:=Zgo hr i h.1 h.2 hh
  exact ZeN f v r word mv i h.1 h.2 y hy w hp hf hl
 ·exact ZcF f v r word mv i hi (by omega) w hp hf hm hpn hon
theorem ZeQ(f:Fct)(r:KRow)(i:Nat)(hi:i<13):Yx f r i (13-i)=if r.has i=true then(if XW f r i≠0 then XW f r i else Yx f r (i+1) (13-(i+1))) else if f.none i=false then 1 else Yx f r (i+1) (13-(i+1)):=by
 have e:13-i=(13-(i+1))+1:=by omega
 rw[e];rfl
theorem Zdw(f:Fct)(v:FaV)(w:World)(hp:Env w)(hf:f.Sz 1000)(hm:FaM w w.1.size f v)(hpn:v.pn<=100000)(hon:v.on<=100000):
 Calls Tryz.prog 104 #[.agg (Qe f v)] w fun e w'=>e=.returned (.int .i64 (QL f))/\Below w.1.size w w':=by
 have H:=jq ((Kp.start hp).new w.1.size rfl (Qe f v) 44);have hl:=Xp (H.out.at_ 0 rfl) (QV f v);have HN:=jq (VB f.key);have HS:=jq (fun(hc:f.cancelled=true) (W:World) (hp:Env W)=>Zgi f v hc W hp hpn hon hm.pk.1 hm.op.1)
 have HFD:=jq (fun(r:KRow) (hr:Xv f.kind=some r) (word:List UInt8) (mv:Value) (i:Nat) (hi:i<=12) (hh:r.has i=true) (W:World) (hb:Below w.1.size w W) (hl:LimM W mv r.nums)=>
  ZeP f v r f.kind hr word mv i hi hh W (hp.here hb) hf hl (hm.here hb) hpn hon)
 have HEM:=jq (fun(i:Nat) (hi:i<=12) (W:World) (hb:Below w.1.size w W)=>ZeO f v i hi W (hp.here hb) (hm.here hb) hpn hon);have HST:=jq (fun r i hi=>ZeQ f r i hi)
 have HE:=jq (show QL f=if Qv f.key=false then 23 else if f.stamp<0 then 2
  else if f.cancelled=true then(if f=Qz f.key f.stamp then 0 else 1)
  else if f.day< -25567\/84005<f.day then 13
  else match Xv f.kind with
   |none=>7
   |some r=>Yx f r 0 13 from rfl)
 have x0:=H.out.c 0 0 rfl (show(Qe f v)[0]?=some (.string ⟨f.key.toArray⟩) from rfl);have x1:=H.out.c 0 1 rfl (show(Qe f v)[1]?=some (.int .i64 f.stamp) from rfl);have x2:=H.out.c 0 2 rfl (show(Qe f v)[2]?=some (.bool f.cancelled) from rfl);have x3:=H.out.c 0 3 rfl (show(Qe f v)[3]?=some (.int .i64 f.day) from rfl);have HK:=jq (show(Qe f v)[4]?=some (.int .i64 f.kind) from rfl);have HZ:=jq (QV f v);have HKI:=jq hf.kind;have HC0:=jq (show(Qe f v)[0]?=some (.string ⟨f.key.toArray⟩) from rfl);have HC1:=jq (show(Qe f v)[1]?=some (.int .i64 f.stamp) from rfl);have HC2:=jq (show(Qe f v)[2]?=some (.bool f.cancelled) from rfl);have HC3:=jq (show(Qe f v)[3]?=some (.int .i64 f.day) from rfl);generalize QL f=res at*;generalize Qe f v=fb at*;generalize hsb:decide (f=Qz f.key f.stamp)=sb at HS;have HSB:=jq hsb;clear hsb;simp only[Qe,Qz,Qu] at HS;clear hp hf hm hpn hon;unfold S at*
 cases hnb:Qv f.key with
 |false=>
  rw[if_pos hnb] at HE;rw[hnb] at HN;clear hnb;go_enter Tryz.func104,Tryz.ntmps104
  go_wp2_with fail
  refine(HN.out _ H.out.pw).mono ?_;rintro e w1 ⟨rfl,hb1⟩;go_wp2_with fail
  first|go_ret|skip
  exact⟨Qa HE.out.symm,(H.out.here hb1).bl⟩
 |true=>
 rw[if_neg (by rw[hnb];decide)] at HE;rw[hnb] at HN;clear hnb;go_enter Tryz.func104,Tryz.ntmps104
 go_wp2_with fail
 refine(HN.out _ H.out.pw).mono ?_;rintro e w1 ⟨rfl,hb1⟩;have H1:=jq (H.out.here hb1);clear x0 x1 x2 x3 hl;have hl:=Xp (H1.out.at_ 0 rfl) HZ.out;clear H HN;have HY:=jq (fun W (hb:Below w1.1.size w1 W)=>(H1.out.here hb).bl)
 by_cases hs:f.stamp<0
 ·rw[if_pos hs] at HE;have y1:=H1.out.c 0 1 rfl HC1.out;go_wp2_with fail
  first|go_ret|skip
  exact⟨Qa HE.out.symm,H1.out.bl⟩
 rw[if_neg hs] at HE;have y0:=H1.out.c 0 0 rfl HC0.out;have y1:=H1.out.c 0 1 rfl HC1.out;have y2:=H1.out.c 0 2 rfl HC2.out;have y3:=H1.out.c 0 3 rfl HC3.out
 cases hcn:f.cancelled with
 |true=>
  rw[if_pos hcn] at HE;have HS2:=jq (HS.out hcn w1 H1.out.pw);rw[hcn] at y2;clear hcn HS
  by_cases hv:f=Qz f.key f.stamp
  ·rw[if_pos hv] at HE;have hsb:sb=true:=by rw[<-HSB.out];exact decide_eq_true hv
   subst hsb;clear hv;go_wp2_with (go_at_call 147;refine(HS2.out).mono ?_;rintro e w2 ⟨rfl,hb2⟩)
   first|go_ret|skip
   exact⟨Qa HE.out.symm,HY.out _ hb2⟩
  ·rw[if_neg hv] at HE;have hsb:sb=false:=by rw[<-HSB.out];exact decide_eq_false hv
   subst hsb;clear hv;go_wp2_with (go_at_call 147;refine(HS2.out).mono ?_;rintro e w2 ⟨rfl,hb2⟩)
   first|go_ret|skip
   exact⟨Qa HE.out.symm,HY.out _ hb2⟩
 |false=>
 rw[if_neg (by rw[hcn];decide)] at HE;rw[hcn] at y2;clear hcn HS
 by_cases d1:f.day< -25567
 ·rw[if_pos (.inl d1)] at HE;go_wp2_with fail
  first|go_ret|skip
  exact⟨Qa HE.out.symm,H1.out.bl⟩
 by_cases d2:84005<f.day
 ·rw[if_pos (.inr d2)] at HE;go_wp2_with fail
  first|go_ret|skip
  exact⟨Qa HE.out.symm,H1.out.bl⟩
 rw[if_neg (by omega)] at HE;go_upto_region 11 with (fail)
 refine Zak (ops:=Jl) (by kernel_rfl) (fun l a W=>CkI w f.kind fb l a W) ZhF ZhE (fun l a W h=>by rw[h.sz,JF]) (fun l a W h i o ho hl hd=>ZhG h HKI.out HK.out i o ho hl hd) (fun l a W h hall=> ?_) ⟨by simp[JF],rfl,rfl,H1.out.drew,rfl,fun i hi h=> ?_⟩
 case refine_2=>
  exfalso
  rw[Array.getD_eq_getD_getElem?,Array.getElem?_replicate] at h
  split at h<;>simp at h
 obtain⟨F,g,kb,rfl,e1,e3,e4,hk,hkp⟩:=h.done (fun i hi=>hall i (by rw[JF];exact hi))
 rw[e1,e3,e4];clear hl y0 y1 y2 y3 hall h e1 e3 e4 H1 HY hs d1 d2
 cases hr:Xv f.kind with
 |none=>
  rw[hr] at HE;clear hr hk;go_wp2_with fail
  first|go_ret|skip
  exact⟨Qa HE.out.symm,hkp.bl⟩
 |some r=>
 rw[hr] at HE;have HFR:=jq (HFD.out r hr);unfold KOk at hk;rw[hr] at hk;obtain⟨word,mv,rfl,hl⟩:=hk
 have HKP:=jq hkp;have HLM:=jq hl;clear hr hl hkp HFD;go_wp2_with fail
 go_loopw [2,5,6,41] (fun _ _ _ i W=>∃j:Nat,j<=13/\i=.int .i64 j/\Hid (Kp w [(g,kB word r.cls r.has mv r.code,182),(w.1.size,fb,44)] W)/\Hid (LimM W mv r.nums)/\Hid (res=Yx f r j (13-j))) (fun _ _ _ i _=>13-(intOf i).toNat)
 case atStart=>exact⟨0,by omega,rfl,HKP.out,HLM.out,HE.out⟩
 case round=>
  obtain⟨j,hj,rfl,HA,HL,HQ⟩:=hrel
  by_cases hlt:j<13
  ·have hq:=HQ.out;rw[HST.out r j hlt] at hq;have hcell:=HA.out.c 0 (2+j) rfl (Zbm word r.cls r.has mv r.code j (by omega))
   cases hh:r.has j with
   |true=>
    rw[if_pos hh] at hq;rw[hh] at hcell;have HQ2:=jq hq;have HCL:=jq (HFR.out word mv j (by omega) hh);clear hq hh HQ;have l1:=Jw (HA.out.at_ 0 rfl) (Zg5 word r.cls r.has mv r.code);have l2:=Xp (HA.out.at_ 1 rfl) HZ.out
    by_cases h0:XW f r j=0
    ·rw[if_neg (by simpa using h0)] at HQ2;rw[h0] at HCL;clear h0;go_wp2_with (go_at_call 149;refine(HCL.out _ HA.out.bl HL.out).mono ?_;rintro e w3 ⟨rfl,hb3⟩)
     go_roundw
     case rel=>exact⟨j+1,by omega,by go_num,HA.out.here hb3,HL.out.here hb3,HQ2.out⟩
     case measure=>simp[intOf];omega
    ·rw[if_pos (by simpa using h0)] at HQ2;generalize XW f r j=z at*;have h0':(z==0)=false:=beq_false_of_ne h0;go_wp2_with (go_at_call 149;refine(HCL.out _ HA.out.bl HL.out).mono ?_;rintro e w3 ⟨rfl,hb3⟩)
     go_ret
     exact⟨Qa HQ2.out.symm,(HA.out.here hb3).bl⟩
   |false=>
    rw[if_neg (by rw[hh];decide)] at hq;rw[hh] at hcell;have HQ2:=jq hq;have HCE:=jq (HEM.out j (by omega));clear hq hh HQ;have l2:=Xp (HA.out.at_ 1 rfl) HZ.out
    cases hn:f.none j with
    |false=>
     rw[if_pos hn] at HQ2;rw[hn] at HCE;clear hn;go_wp2_with (go_at_call 150;refine(HCE.out _ HA.out.bl).mono ?_;rintro e w3 ⟨rfl,hb3⟩)
     go_ret
     exact⟨Qa HQ2.out.symm,(HA.out.here hb3).bl⟩
    |true=>
     rw[if_neg (by rw[hn];decide)] at HQ2;rw[hn] at HCE;clear hn;go_wp2_with (go_at_call 150;refine(HCE.out _ HA.out.bl).mono ?_;rintro e w3 ⟨rfl,hb3⟩)
     go_roundw
     case rel=>exact⟨j+1,by omega,by go_num,HA.out.here hb3,HL.out.here hb3,HQ2.out⟩
     case measure=>simp[intOf];omega
  ·have ej:j=13:=by omega
   subst ej;go_wp2_with fail
   first|go_ret|skip
   exact⟨Qa HQ.out.symm,HA.out.bl⟩
end
section
attribute [local go_sem] Oper.semAt_some
attribute [local go_sem ↓] Qs QG
theorem ZhH{xs:List Fx}{k:Nat}{f:Fct}{v:FaV}(h:xs[k]?=some (f,v)):(xs.map (·.1)).drop k=f::(xs.map (·.1)).drop (k+1):=by
 obtain⟨hk,e⟩:=List.getElem?_eq_some_iff.1 h
 rw[List.drop_eq_getElem_cons (by simpa using hk),List.getElem_map,e]
theorem ZhI{w:World}{x:Fx}(hp:Env w)(h:FxM w w.1.size x):Calls Tryz.prog 104 #[.agg (Qe x.1 x.2)] w fun e w'=>e=.returned (.int .i64 (QL x.1))/\Below w.1.size w w':=
 Zdw x.1 x.2 w hp h.sz h.m h.pn h.on
end
end Go.Proofs.YtokjnjdbnabchaaGreatDoor
