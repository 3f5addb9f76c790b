/- Fa9, Vby, Vms, Fb0, Vx0. -/
import Derived.Test.YtokjnjdbnabchaaGreatDoorQGEp23
set_option maxRecDepth 100000
set_option maxHeartbeats 8000000
namespace Go.Proofs.YtokjnjdbnabchaaGreatDoor
open Go.Lib renaming hid→jq
open Go.RowKit Go.Shelf
section
attribute [local go_sem] Oper.semAt_some
attribute [local go_sem ↓] Go.wp_at_zero Go.wp_at_succ Qs Yy
theorem Zgf(A:Option Addr)(n c:Nat)(w:World)(hn:n<=100000):Calls Tryz.prog 200 #[.slice A n c,.slice none 0 0] w fun e w'=>e=.returned (.bool (decide (n=0)))/\w'=w:=by
 cases n with
 |zero=>
  go_enter Tryz.func200,Tryz.ntmps200
  go_wp2_with fail
  go_loopw [5,13] (fun _ i wr=>i=.int .i64 0/\wr=w) (fun _ i _=>0)
  case atStart=>exact⟨rfl,rfl⟩
  case round=>
   obtain⟨rfl,rfl⟩:=hrel
   go_wp2_with fail
   first|go_ret|skip
   exact⟨rfl,rfl⟩
 |succ n=>
  have h0:(((n+1:Nat):Int)==0)=false:=beq_false_of_ne (by omega);go_enter Tryz.func200,Tryz.ntmps200
  go_wp2_with fail
  first|go_ret|skip
  exact⟨rfl,rfl⟩
theorem Zgg(A:Option Addr)(n c:Nat)(w:World)(hn:n<=100000):Calls Tryz.prog 201 #[.slice A n c,.slice none 0 0] w fun e w'=>e=.returned (.bool (decide (n=0)))/\w'=w:=by
 cases n with
 |zero=>
  go_enter Tryz.func201,Tryz.ntmps201
  go_wp2_with fail
  go_loopw [5,13] (fun _ i wr=>i=.int .i64 0/\wr=w) (fun _ i _=>0)
  case atStart=>exact⟨rfl,rfl⟩
  case round=>
   obtain⟨rfl,rfl⟩:=hrel
   go_wp2_with fail
   first|go_ret|skip
   exact⟨rfl,rfl⟩
 |succ n=>
  have h0:(((n+1:Nat):Int)==0)=false:=beq_false_of_ne (by omega);go_enter Tryz.func201,Tryz.ntmps201
  go_wp2_with fail
  first|go_ret|skip
  exact⟨rfl,rfl⟩
def Qz(k:List UInt8)(s:Int):Fct:=⟨k,s,true,0,0,[],[],[],[],[],[],[],⟨[],[]⟩,⟨[],[]⟩,⟨[],[]⟩,[],[],0⟩
def Qu:FaV:=⟨none,0,0,none,0,0⟩
theorem Zgh(f:Fct)(hc:f.cancelled=true):decide (f=Qz f.key f.stamp)=(f.day==0&&f.kind==0&&(f.inst==[])&&(f.other==[])&&(f.cur==[])&&(f.target==[])&&(f.q==[])&&(f.amount==[])&&(f.fee==[])&&(f.price.n==[]&&f.price.d==[])&&(f.ratio.n==[]&&f.ratio.d==[])&&(f.share.n==[]&&f.share.d==[])&&f.picks.isEmpty&&f.options.isEmpty&&f.choice==0):=by
 obtain⟨key,stamp,canc,day,kind,inst,other,cur,target,q,amount,fee,⟨pn,pd⟩,⟨rn,rd⟩,⟨sn,sd⟩,picks,options,choice⟩:=f
 simp only at hc
 subst hc;rw[Bool.eq_iff_iff];simp[Qz,and_assoc]
theorem Zgi(f:Fct)(v:FaV)(hc:f.cancelled=true)(w:World)(hp:Env w)(hn:v.pn<=100000)(ho:v.on<=100000)(hpl:v.pn=f.picks.length)(hol:v.on=f.options.length):
 Calls Tryz.prog 147 #[.agg (Qe f v),.agg (Qe (Qz f.key f.stamp) Qu)] w fun e w'=>e=.returned (.bool (decide (f=Qz f.key f.stamp)))/\Below w.1.size w w':=by
 have H1:=(Kp.start hp).new w.1.size rfl (Qe f v) 44;have H:=jq (H1.new (w.1.size+1) (by simp) (Qe (Qz f.key f.stamp) Qu) 44);have HP:=jq (fun W=>Zgf v.pA v.pn v.pc W hn);have HO:=jq (fun W=>Zgg v.oA v.on v.oc W ho)
 have ep:f.picks.isEmpty=decide (v.pn=0):=by rw[hpl];cases f.picks<;>simp
 have eo:f.options.isEmpty=decide (v.on=0):=by rw[hol];cases f.options<;>simp
 rw[Zgh f hc,ep,eo];generalize decide (v.pn=0)=bp at*;generalize decide (v.on=0)=bo at*;have x0:=H.out.c 1 0 rfl (show(Qe f v)[0]?=some (.string ⟨f.key.toArray⟩) from rfl);have y0:=H.out.c 0 0 rfl (show(Qe (Qz f.key f.stamp) Qu)[0]?=some (.string ⟨f.key.toArray⟩) from rfl);have x1:=H.out.c 1 1 rfl (show(Qe f v)[1]?=some (.int .i64 f.stamp) from rfl);have y1:=H.out.c 0 1 rfl (show(Qe (Qz f.key f.stamp) Qu)[1]?=some (.int .i64 f.stamp) from rfl);have x2:=H.out.c 1 2 rfl (show(Qe f v)[2]?=some (.bool true) from congrArg (fun b=>some (Value.bool b)) hc);have y2:=H.out.c 0 2 rfl (show(Qe (Qz f.key f.stamp) Qu)[2]?=some (.bool true) from rfl);have x3:=H.out.c 1 3 rfl (show(Qe f v)[3]?=some (.int .i64 f.day) from rfl);have y3:=H.out.c 0 3 rfl (show(Qe (Qz f.key f.stamp) Qu)[3]?=some (.int .i64 0) from rfl);have x4:=H.out.c 1 4 rfl (show(Qe f v)[4]?=some (.int .i64 f.kind) from rfl);have y4:=H.out.c 0 4 rfl (show(Qe (Qz f.key f.stamp) Qu)[4]?=some (.int .i64 0) from rfl);have x5:=H.out.c 1 5 rfl (show(Qe f v)[5]?=some (.string ⟨f.inst.toArray⟩) from rfl);have y5:=H.out.c 0 5 rfl (show(Qe (Qz f.key f.stamp) Qu)[5]?=some (.string ⟨#[]⟩) from rfl);have x6:=H.out.c 1 6 rfl (show(Qe f v)[6]?=some (.string ⟨f.other.toArray⟩) from rfl);have y6:=H.out.c 0 6 rfl (show(Qe (Qz f.key f.stamp) Qu)[6]?=some (.string ⟨#[]⟩) from rfl);have x7:=H.out.c 1 7 rfl (show(Qe f v)[7]?=some (.string ⟨f.cur.toArray⟩) from rfl);have y7:=H.out.c 0 7 rfl (show(Qe (Qz f.key f.stamp) Qu)[7]?=some (.string ⟨#[]⟩) from rfl);have x8:=H.out.c 1 8 rfl (show(Qe f v)[8]?=some (.string ⟨f.target.toArray⟩) from rfl);have y8:=H.out.c 0 8 rfl (show(Qe (Qz f.key f.stamp) Qu)[8]?=some (.string ⟨#[]⟩) from rfl);have x9:=H.out.c 1 9 rfl (show(Qe f v)[9]?=some (.string ⟨f.q.toArray⟩) from rfl);have y9:=H.out.c 0 9 rfl (show(Qe (Qz f.key f.stamp) Qu)[9]?=some (.string ⟨#[]⟩) from rfl);have x10:=H.out.c 1 10 rfl (show(Qe f v)[10]?=some (.string ⟨f.amount.toArray⟩) from rfl);have y10:=H.out.c 0 10 rfl (show(Qe (Qz f.key f.stamp) Qu)[10]?=some (.string ⟨#[]⟩) from rfl);have x11:=H.out.c 1 11 rfl (show(Qe f v)[11]?=some (.string ⟨f.fee.toArray⟩) from rfl);have y11:=H.out.c 0 11 rfl (show(Qe (Qz f.key f.stamp) Qu)[11]?=some (.string ⟨#[]⟩) from rfl);have x12:=H.out.c 1 12 rfl (show(Qe f v)[12]?=some (.string ⟨f.price.n.toArray⟩) from rfl);have y12:=H.out.c 0 12 rfl (show(Qe (Qz f.key f.stamp) Qu)[12]?=some (.string ⟨#[]⟩) from rfl);have x13:=H.out.c 1 13 rfl (show(Qe f v)[13]?=some (.string ⟨f.price.d.toArray⟩) from rfl);have y13:=H.out.c 0 13 rfl (show(Qe (Qz f.key f.stamp) Qu)[13]?=some (.string ⟨#[]⟩) from rfl);have x14:=H.out.c 1 14 rfl (show(Qe f v)[14]?=some (.string ⟨f.ratio.n.toArray⟩) from rfl);have y14:=H.out.c 0 14 rfl (show(Qe (Qz f.key f.stamp) Qu)[14]?=some (.string ⟨#[]⟩) from rfl);have x15:=H.out.c 1 15 rfl (show(Qe f v)[15]?=some (.string ⟨f.ratio.d.toArray⟩) from rfl);have y15:=H.out.c 0 15 rfl (show(Qe (Qz f.key f.stamp) Qu)[15]?=some (.string ⟨#[]⟩) from rfl);have x16:=H.out.c 1 16 rfl (show(Qe f v)[16]?=some (.string ⟨f.share.n.toArray⟩) from rfl);have y16:=H.out.c 0 16 rfl (show(Qe (Qz f.key f.stamp) Qu)[16]?=some (.string ⟨#[]⟩) from rfl);have x17:=H.out.c 1 17 rfl (show(Qe f v)[17]?=some (.string ⟨f.share.d.toArray⟩) from rfl);have y17:=H.out.c 0 17 rfl (show(Qe (Qz f.key f.stamp) Qu)[17]?=some (.string ⟨#[]⟩) from rfl);have x18:=H.out.c 1 18 rfl (show(Qe f v)[18]?=some (.slice v.pA v.pn v.pc) from rfl);have y18:=H.out.c 0 18 rfl (show(Qe (Qz f.key f.stamp) Qu)[18]?=some (.slice none 0 0) from rfl);have x19:=H.out.c 1 19 rfl (show(Qe f v)[19]?=some (.slice v.oA v.on v.oc) from rfl);have y19:=H.out.c 0 19 rfl (show(Qe (Qz f.key f.stamp) Qu)[19]?=some (.slice none 0 0) from rfl);have x20:=H.out.c 1 20 rfl (show(Qe f v)[20]?=some (.int .i64 f.choice) from rfl);have y20:=H.out.c 0 20 rfl (show(Qe (Qz f.key f.stamp) Qu)[20]?=some (.int .i64 0) from rfl);generalize Qe f v=fa at*;generalize Qe (Qz f.key f.stamp) Qu=fb at*;have HB:=jq H.out.bl;clear hp hn ho hpl hol H1 ep eo hc H;go_enter Tryz.func147,Tryz.ntmps147
 go_upto_region 1 with (fail)
 generalize (w.alloc (.cells fa 44)).alloc (.cells fb 44)=W at*
 go_wp2_with (first
  |(go_at_call 200;refine(HP.out _).mono ?_;rintro e w1 ⟨rfl,rfl⟩;cases bp)
  |(go_at_call 201;refine(HO.out _).mono ?_;rintro e w1 ⟨rfl,rfl⟩;cases bo))
 all_goals
  first|go_ret|skip
  refine⟨Qm ?_,HB.out⟩;simp[*]
end
section
attribute [local go_sem] Oper.semAt_some
attribute [local go_sem ↓] Qs QG
end
section
attribute [local go_sem] Oper.semAt_some
attribute [local go_sem ↓] Qs QG
theorem Kp.lowK{w00 A B:World}(h:Kp w00 [] A)(hb:Below w00.1.size A B):Kp w00 [] B:=⟨h.pow,h.bl.trans hb,fun _ h=>by simp at h,.nil,fun _ h=>by simp at h⟩
end
section
def kZ:Array Value:=kB [] 0 (fun _=>false) (.map none) false
def KOk(W:World)(k:Int)(kb:Array Value):Prop:=match Xv k with|some r=>∃word mv,kb=kB word r.cls r.has mv r.code/\LimM W mv r.nums|none=>kb=kZ
theorem LimM.row{W:World}{g:Nat}{mv:Value}{nums:List (Nat×Bool×Bool)}{old:Array Value}(h:LimM W mv nums)(hg:BlkB W g old 182)(c:Array Value):LimM (W.setRow g c) mv nums:=by
 rcases h with h|⟨b,n,e,h⟩
 ·exact .inl h
 ·exact .inr ⟨b,n,e,h.row hg c⟩
section
variable {W W':World} {k:Int} {kb:Array Value}
theorem KOk.here(h:KOk W k kb)(hb:Below W.1.size W W'):KOk W' k kb:=by
 unfold KOk at*
 split<;>rename_i e<;>rw[e] at h
 ·obtain⟨word,mv,e1,h⟩:=h;exact⟨word,mv,e1,h.here hb⟩
 ·exact h
theorem KOk.row{g:Nat}{old:Array Value}(h:KOk W k kb)(hg:BlkB W g old 182)(c:Array Value):KOk (W.setRow g c) k kb:=by
 unfold KOk at*
 split<;>rename_i e<;>rw[e] at h
 ·obtain⟨word,mv,e1,h⟩:=h;exact⟨word,mv,e1,h.row hg c⟩
 ·exact h
theorem KOk.size(h:KOk W k kb):kb.size=17:=by
 unfold KOk at h
 split at h
 ·obtain⟨word,mv,rfl,h⟩:=h;rfl
 ·subst h;rfl
theorem KOk.cell(h:KOk W k kb):kb.all (·.oneCell')=true:=by
 unfold KOk at h
 split at h
 ·obtain⟨word,mv,rfl,h⟩:=h
  refine Yj _ _ _ _ _ ?_
  rcases h with ⟨rfl,_⟩|⟨b,n,rfl,_⟩<;>rfl
 ·subst h;exact Yj _ _ _ _ _ rfl
theorem RowsB.look{bm:Nat}(h:RowsB W bm 18 Vi)(hk:I64 k):∃kb,(Instr.lookup 184 (.map (some bm)) (.int .i64 k) true).run Tryz.prog W=.ok (.tuple #[.agg kb,.bool (Xv k).isSome]) W/\KOk W k kb:=by
 obtain⟨m,hm,hr⟩:=h
 have e:=hm.lookOk (t:=184) (e:=182) (k:=k) Tryz.underlying184 (z:=.agg kZ) (by kernel_rfl) hk.1 hk.2;have h1:=hr k;have h2:=ZeI k;rw[e]
 cases hf:Vi.find? (fun x=>x.1==k) with
 |none=>
  rw[hf] at h1 h2;have h2':Xv k=none:=h2.symm;simp only at h1
  refine⟨kZ,by rw[h1,h2'];rfl,?_⟩;unfold KOk;rw[h2']
 |some x=>
  rw[hf] at h1 h2;have h2':Xv k=some x.2:=h2.symm;obtain⟨v,h3,word,mv,rfl,h4,h5⟩:=h1
  refine⟨_,by rw[h3,h2'];rfl,?_⟩;unfold KOk;rw[h2'];exact⟨word,mv,rfl,h4⟩
end
noncomputable def Jl:Array Oper:=((Tryz.f104.body).bind (VE 11)).getD #[]
def Zal(i:Nat):Option Nat:=match i with|0=>some 33|1=>some 34|2=>some 35|3=>some 36|4=>some 32|5=>some 37|6=>some 38|7=>some 3|9=>some 4|_=>none
def ckF(k:Int)(b0:Nat)(l:Array Bool)(sv:Nat->Value)(W:World)(i:Nat):Prop:=
 match i with
 |0=>∃bm,sv 33=.map (some bm)/\(l.getD 3 false=false->RowsB W bm 18 Vi)
 |1=>sv 34=.pointer (some ⟨b0,4,none⟩)
 |2=>sv 35=.int .i64 k
 |3=>∃kb,sv 36=.tuple #[.agg kb,.bool (Xv k).isSome]/\KOk W k kb
 |4=>∃kb,sv 32=.tuple #[.agg kb,.bool (Xv k).isSome]/\KOk W k kb
 |5=>∃kb,sv 37=.agg kb/\KOk W k kb
 |6=>sv 38=.bool (Xv k).isSome
 |7=>∃g cs,sv 3=.pointer (some ⟨g,0,none⟩)/\b0<g/\BlkB W g cs 182/\cs.size=17/\(l.getD 8 false=true->KOk W k cs)
 |8=>l.getD 7 false=true
 |9=>sv 4=.bool (Xv k).isSome
 |_=>True
theorem ckF.keep{k:Int}{b0:Nat}{l l':Array Bool}{sv sv':Nat->Value}{W W':World}{i:Nat}(h:ckF k b0 l sv W i)(hs:∀s,Zal i=some s->sv' s=sv s)(hb:Below W.1.size W W')(h3:l'.getD 3 false=false->l.getD 3 false=false)
 (h8:l'.getD 8 false=true->l.getD 8 false=true) (h7:l.getD 7 false=true->l'.getD 7 false=true):ckF k b0 l' sv' W' i:=by
 unfold ckF at*
 split at h
 ·obtain⟨bm,e,hr⟩:=h;exact⟨bm,(hs _ rfl).trans e,fun h=>(hr (h3 h)).here hb⟩
 ·exact(hs _ rfl).trans h
 ·exact(hs _ rfl).trans h
 ·obtain⟨kb,e,hr⟩:=h;exact⟨kb,(hs _ rfl).trans e,hr.here hb⟩
 ·obtain⟨kb,e,hr⟩:=h;exact⟨kb,(hs _ rfl).trans e,hr.here hb⟩
 ·obtain⟨kb,e,hr⟩:=h;exact⟨kb,(hs _ rfl).trans e,hr.here hb⟩
 ·exact(hs _ rfl).trans h
 ·obtain⟨g,cs,e,h1,h2,h4,h5⟩:=h;exact⟨g,cs,(hs _ rfl).trans e,h1,h2.here hb,h4,fun h=>(h5 (h8 h)).here hb⟩
 ·exact h7 h
 ·exact(hs _ rfl).trans h
 ·trivial
structure CkI (w:World) (k:Int) (fb:Array Value) (l:Array Bool) (a:Act) (W:World):Prop where
 sz:l.size=10
 ts:a.tmps.size=60
 df:a.defers=[]
 kp:Kp w [(w.1.size,fb,44)] W
 s1:Qo a 1=.pointer (some ⟨w.1.size,0,none⟩)
 f:∀i,i<10->l.getD i false=true->ckF k w.1.size l (Qo a) W i
theorem Zgj(i j s:Nat)(h:i≠j)(hs:Zal j=some s):Zal i≠some s:=by
 unfold Zal at*
 intro h2
 split at hs<;>split at h2<;>first|(simp_all;done)|(simp_all;omega)
theorem Zgk(a:Act)(t:Option Nat)(v:Value):(a.put t v).tmps.size=a.tmps.size:=by
 unfold Act.put
 cases t<;>simp
theorem Zgl(a:Act)(t:Option Nat)(v:Value):(a.put t v).defers=a.defers:=by
 unfold Act.put
 cases t<;>rfl
theorem CkI.next{w:World}{k:Int}{fb:Array Value}{l:Array Bool}{a:Act}{W W':World}(h:CkI w k fb l a W)(i:Nat)(hi:i<10)(h8:i≠8)(v:Value)(hb:Below W.1.size W W')
 (hf:ckF k w.1.size (l.setIfInBounds i true) (Qo (a.put (Zal i) v)) W' i):CkI w k fb (l.setIfInBounds i true) (a.put (Zal i) v) W':=by
 have hil:i<l.size:=by rw[h.sz];exact hi
 refine⟨by simp[h.sz],by rw[Zgk];exact h.ts,by rw[Zgl];exact h.df,h.kp.here hb,(QS ?_).trans h.s1,fun j hj hl=> ?_⟩
 ·unfold Zal
  split<;>simp
 ·by_cases e:j=i
  ·subst e;exact hf
  ·rw[Qn e] at hl;refine(h.f j hj hl).keep (fun s hs=>QS (Zgj i j s (fun e2=>e e2.symm) hs)) hb (fun h3=> ?_) (fun h3=> ?_) (fun h3=> ?_)
   ·by_cases e3:i=3
    ·subst e3;rw[XH hil] at h3;cases h3
    ·rwa [Qn (fun e2=>e3 e2.symm)] at h3
   ·rwa [Qn (fun e2=>h8 e2.symm)] at h3
   ·by_cases e3:i=7
    ·subst e3;exact XH hil
    ·rwa [Qn (fun e2=>e3 e2.symm)]
theorem CkI.store{w:World}{k:Int}{fb:Array Value}{l:Array Bool}{a:Act}{W:World}(h:CkI w k fb l a W)(h3:l.getD 3 false=true)(h7:l.getD 7 false=true){g:Nat}{kb cs:Array Value}(hk:KOk W k kb)(hg:BlkB W g cs 182)(hs:Qo a 3=.pointer (some ⟨g,0,none⟩))(hgw:w.1.size<g)(v:Value):
 CkI w k fb (l.setIfInBounds 8 true) (a.put none v) (W.setRow g kb):=by
 have hp:∀s,Qo (a.put none v) s=Qo a s:=fun s=>QS (by simp)
 refine⟨by simp[h.sz],by rw[Zgk];exact h.ts,by rw[Zgl];exact h.df,?_,(hp 1).trans h.s1,fun j hj hl=> ?_⟩
 ·refine⟨h.kp.pow,h.kp.bl.trans (ZaL W (by omega) kb),h.kp.own,h.kp.ord,fun b hb=> ?_⟩;have:=h.kp.blk b hb
  simp only[List.mem_singleton] at hb;subst hb;exact(QK W g kb (by show w.1.size≠g;omega)).trans this
 ·have e3:(l.setIfInBounds 8 true).getD 3 false=true:=by rw[Qn (by omega)];exact h3
  by_cases e:j=8
  ·subst e;show(l.setIfInBounds 8 true).getD 7 false=true;rw[Qn (by omega)];exact h7
  ·rw[Qn e] at hl;have hf:=h.f j hj hl;unfold ckF at*
   split at hf
   ·obtain⟨bm,e,hr⟩:=hf;exact⟨bm,(hp _).trans e,fun h=>by rw[e3] at h;cases h⟩
   ·exact(hp _).trans hf
   ·exact(hp _).trans hf
   ·obtain⟨kb,e,hr⟩:=hf;exact⟨kb,(hp _).trans e,hr.row hg _⟩
   ·obtain⟨kb,e,hr⟩:=hf;exact⟨kb,(hp _).trans e,hr.row hg _⟩
   ·obtain⟨kb,e,hr⟩:=hf;exact⟨kb,(hp _).trans e,hr.row hg _⟩
   ·exact(hp _).trans hf
   ·exact⟨g,kb,(hp _).trans hs,hgw,Ve kb hg,hk.size,fun _=>hk.row hg _⟩
   ·exact absurd rfl e
   ·exact(hp _).trans hf
   ·trivial
end
section
def buF(ps:Array (Nat×Value)):Sem Value:=Instr.build 44 ps
theorem ZiA(ps:Array (Nat×Value)):Instr.build 44 ps=buF ps:=rfl
theorem ZgF{w:World}{B:Nat}{f:Fct}(h1:f.picks=[])(h2:f.options=[])(h3:f.Sz 1000):FxM w B (f,Qu):=
 ⟨⟨by rw[show(f,Qu).1.picks=[] from h1];exact Sl.nil,by rw[show(f,Qu).1.options=[] from h2];exact Sl.nil,Nat.le_refl _⟩,Nat.zero_le _,Nat.zero_le _,h3⟩
theorem ZgG(w:World)(xs:List Fx)(h:∀x∈xs,x.2=Qu/\x.1.picks=[]/\x.1.options=[]/\x.1.Sz 1000):
 Fxs (w.alloc (.cells (xs.flatMap YY).toArray 44)) (w.alloc (.cells (xs.flatMap YY).toArray 44)).heap.size (some ⟨w.1.size,0,none⟩) xs.length xs:=
 ⟨(Sl.lit (enc:=YY) (k:=21) w _ _ xs rfl YO).more (by simp),fun x hx=>by
   obtain⟨h1,h2,h3,h4⟩:=h x hx
   obtain⟨f,v⟩:=x
   subst h1;exact ZgF h2 h3 h4⟩
def vx(l:List Fct):List Fx:=l.map fun f=>(f,Qu)
theorem ZgH(l:List Fct):(vx l).map (·.1)=l:=by unfold vx;rw[List.map_map];exact List.map_id' l
theorem ZiV{l:List Fct}(h:∀f∈l,f.picks=[]/\f.options=[]/\f.Sz 1000):∀x∈vx l,x.2=Qu/\x.1.picks=[]/\x.1.options=[]/\x.1.Sz 1000:=by
 intro x hx;obtain⟨f,hf,rfl⟩:=List.mem_map.1 hx
 exact⟨rfl,h f hf⟩
theorem Zjf{xs:List Fx}{l:List Fct}{n:Nat}(h:xs.map (·.1)=l)(hl:l.length=n):xs.length=n:=by rw[<-hl,<-h,List.length_map]
end
end Go.Proofs.YtokjnjdbnabchaaGreatDoor
