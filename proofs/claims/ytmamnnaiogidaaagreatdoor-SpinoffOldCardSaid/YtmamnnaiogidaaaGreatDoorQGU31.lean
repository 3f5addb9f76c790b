/- Mv, Mv2, Mf. -/
import Derived.Test.YtmamnnaiogidaaaGreatDoorQGU40
import Derived.Test.YtmamnnaiogidaaaGreatDoorQGU42
import Derived.Laws.Concat
import Derived.Laws.Tables
set_option maxRecDepth 100000
set_option maxHeartbeats 8000000
namespace Go.Proofs.YtmamnnaiogidaaaGreatDoor
open Go.Lib renaming hid→jq
open Go.RowKit Go.Shelf
section
attribute [local go_sem ↓] Go.wp_at_zero Go.wp_at_succ
structure PlM (W:World) (B:Nat) (v:PlV) (x:Plan) (old:List Lot) (pn pm pf pp:Nat):Prop where
 len:v.on=old.length
 lots:Xg W B v.oA v.on old
 parts:v.parts=Qa x.parts
 part:v.part=Qg x.part
 en:v.n=.slice (some ⟨pn,0,none⟩) v.on v.on
 em:v.q=.slice (some ⟨pm,0,none⟩) v.on v.on
 ef:v.f=.slice (some ⟨pf,0,none⟩) v.on v.on
 ep:v.p=.slice (some ⟨pp,0,none⟩) v.on v.on
 bn:BlkB W pn (Qj x.n v.on v.on) 24
 bm:BlkB W pm (Qj x.m v.on v.on) 24
 bf:BlkB W pf (Qj x.f v.on v.on) 24
 bp:BlkB W pp (Qj x.p v.on v.on) 24
 ln:pn<B
 lm:pm<B
 lf:pf<B
 lp:pp<B
section
variable {W W':World} {B:Nat} {v:PlV} {x:Plan} {old:List Lot} {pn pm pf pp:Nat}
theorem PlM.kept(h:PlM W B v x old pn pm pf pp)(_hB:B<=W.1.size)(hb:∀b,b<B->W'.heap[b]?=W.heap[b]?):PlM W' B v x old pn pm pf pp:=
 {h with lots:=h.lots.keep fun p hp=>World.cell?_of_block (hb p.block hp),bn:=(hb _ h.ln).trans h.bn,bm:=(hb _ h.lm).trans h.bm,bf:=(hb _ h.lf).trans h.bf,bp:=(hb _ h.lp).trans h.bp}
theorem PlM.below(h:PlM W B v x old pn pm pf pp)(hb:Below B W W'):PlM W' B v x old pn pm pf pp:=
 {h with lots:=h.lots.below hb,bn:=(hb.block _ h.ln).trans h.bn,bm:=(hb.block _ h.lm).trans h.bm,bf:=(hb.block _ h.lf).trans h.bf,bp:=(hb.block _ h.lp).trans h.bp}
theorem PlM.more{B':Nat}(h:PlM W B v x old pn pm pf pp)(hB:B<=B'):PlM W B' v x old pn pm pf pp:=
 {h with lots:=h.lots.more hB,ln:=Nat.lt_of_lt_of_le h.ln hB,lm:=Nat.lt_of_lt_of_le h.lm hB,lf:=Nat.lt_of_lt_of_le h.lf hB,lp:=Nat.lt_of_lt_of_le h.lp hB}
end
structure PlSz (K:Nat) (x:Plan):Prop where
 n:∀i,(Qa (x.n.getD i 0)).length<=K
 m:∀i,(Qa (x.m.getD i 0)).length<=K
 f:∀i,(Qa (x.f.getD i 0)).length<=K
 p:∀i,(Qa (x.p.getD i 0)).length<=K
def QN(v:PlV):Array Value:=#[.string ⟨v.m.cause.toArray⟩,.int .i64 v.m.day,.string ⟨v.m.inst.toArray⟩,.string ⟨v.m.other.toArray⟩,.string ⟨v.m.ratio.n.toArray⟩,.string ⟨v.m.ratio.d.toArray⟩,.string ⟨v.m.share.n.toArray⟩,.string ⟨v.m.share.d.toArray⟩,.string ⟨v.m.price.n.toArray⟩,.string ⟨v.m.price.d.toArray⟩,.bool v.m.keep,.slice v.oA v.on v.oc,.string ⟨v.parts.toArray⟩,.string ⟨v.part.n.toArray⟩,.string ⟨v.part.d.toArray⟩,v.n,v.q,v.f,v.p]
theorem Yt(v:PlV):(plA v).toArray=QN v:=rfl
def Zcf(v:Value):Sem Value:=Instr.loadAt 117 v
theorem VQ(v:Value):Instr.loadAt 117 v=Zcf v:=rfl
theorem XO{w:World}{g:Nat}{pb:Array Value}(hg:BlkB w g pb 117)(hs:pb.size=19):(Zcf (.pointer (some ⟨g,0,none⟩))).run Tryz.prog w=.ok (.agg pb) w:=by
 have e:=run_loadVar_row (P:=Tryz.prog) w g 117 117 pb (0,0) _ hg Tryz.underlying117 rfl (by rw[hs];kernel_rfl);unfold Zcf;simp only[Instr.loadAt,Instr.sureAddr,Sem.run_bind,Sem.run_pure,Result.andThen_ok,e]
theorem ZdN(v:PlV)(x:Plan)(old:List Lot)(pn pm pf pp i:Nat)(w:World)(hp:Env w)(h:PlM w w.1.size v x old pn pm pf pp)(hz:PlSz 50000 x)(hi:i<old.length)(_hn:old.length<=1000000):
 Calls Tryz.prog 108 #[.agg (plA v).toArray,.int .i64 i] w fun e w'=>e=.returned (S (Qa (x.mv i)))/\Below w.1.size w w':=by
 have HSU:=jq (fun W hp=>Yp (Qa (x.m.getD i 0)) (Qa (x.f.getD i 0)) W hp (by have:=hz.m i;omega) (by have:=hz.f i;omega));rw[Qc,Qc,show x.m.getD i 0-x.f.getD i 0=x.mv i from rfl] at HSU;have H:=jq ((Kp.start hp).new w.1.size rfl (QN v) 117);have hlen:=h.len
 have PM:=jq (show ∀W,Below w.1.size w W->W.cell? ⟨pm,i,none⟩=some (.string ⟨(Qa (x.m.getD i 0)).toArray⟩)/\W.cell? ⟨pf,i,none⟩=some (.string ⟨(Qa (x.f.getD i 0)).toArray⟩) from fun W hb=>
  ⟨(h.below hb).bm.cell i (by rw[QD _ _ _ _ (by omega),if_pos (by omega)]),(h.below hb).bf.cell i (by rw[QD _ _ _ _ (by omega),if_pos (by omega)])⟩)
 have e16:(QN v)[16]?=some (.slice (some ⟨pm,0,none⟩) v.on v.on):=by rw[<-h.em];rfl
 have e17:(QN v)[17]?=some (.slice (some ⟨pf,0,none⟩) v.on v.on):=by rw[<-h.ef];rfl
 have HX:=jq (show ∀W,Kp w [(w.1.size,QN v,117)] W->W.cell? ⟨w.1.size,16,none⟩=some (.slice (some ⟨pm,0,none⟩) v.on v.on)/\W.cell? ⟨w.1.size,17,none⟩=some (.slice (some ⟨pf,0,none⟩) v.on v.on)/\W.cell? ⟨pm,i,none⟩=some (.string ⟨(Qa (x.m.getD i 0)).toArray⟩)/\W.cell? ⟨pf,i,none⟩=some (.string ⟨(Qa (x.f.getD i 0)).toArray⟩) from
  fun W hW=>⟨hW.c 0 16 rfl e16,hW.c 0 17 rfl e17,(PM.out W hW.bl).1,(PM.out W hW.bl).2⟩)
 rw[Yt];generalize QN v=pb at*;obtain⟨n,hn'⟩:∃n,n=v.on:=⟨_,rfl⟩
 rw[<-hn'] at HX hlen;have i1:(0:Int)<=(i:Int):=by omega
 have i2:(i:Int)<(n:Int):=by omega
 generalize Qa (x.mv i)=res at*;generalize Qa (x.m.getD i 0)=tm at*;generalize Qa (x.f.getD i 0)=tf at*;clear hp h hz hi _hn PM e16 e17 hn' hlen;unfold S at*
 obtain⟨y0,y1,y2,y3⟩:=HX.out _ H.out
 go_enter Tryz.func108,Tryz.ntmps108
 go_upto_region 1 with (fail)
 generalize w.alloc (.cells pb 117)=W at*
 go_region_held3 (fun w'=>w'.cell? ⟨w.1.size,16,none⟩=some (.slice (some ⟨pm,0,none⟩) n n)/\w'.cell? ⟨w.1.size,17,none⟩=some (.slice (some ⟨pf,0,none⟩) n n)/\w'.cell? ⟨pm,i,none⟩=some (.string ⟨tm.toArray⟩)/\w'.cell? ⟨pf,i,none⟩=some (.string ⟨tf.toArray⟩))
  (first
    |exact k2
    |go_keep)
  (first
    |(go_at_call 16;refine(HSU.out _ H.out.drew.po).mono ?_;rintro e w2 ⟨rfl,hb2⟩;unfold S;have hz:Below W.1.size W w2:=(Below.refl _ W).drew.trans hb2;have k2:=HX.out _ (H.out.here hz)))
 all_goals
  go_wp2_with fail
  first|go_ret|skip
  exact⟨rfl,(H.out.here hz).bl⟩
theorem Zjv(k:Nat)(hk:1<=k):Zeb (Qa (k:Int))=QS k:=by rw[ZdJ,if_neg (by omega)]
theorem Ziq(v:PlV)(k:Nat)(w:World)(hp:Env w)(hk:1<=k)(hk2:k<=1000000)(hc:v.m.cause.length<=50000):
 Calls Tryz.prog 109 #[.agg (plA v).toArray,.int .i64 k] w fun e w'=>e=.returned (S (Xi v.m.cause k))/\Below w.1.size w w':=by
 have H:=jq ((Kp.start hp).new w.1.size rfl (QN v) 117);have HOF:=jq (fun W hp=>ZkD (k:Int) (by omega) (by omega) W hp);rw[ZhV k,<-Jf k] at HOF;have hl:(Qa (k:Int)).length<=8:=Qd (n:=(k:Int)) (L:=7) (by simp;omega);have HPR:=jq (ZeK (Qa (k:Int)) (by omega));rw[Zjv k hk] at HPR;have HDL:=jq (show(QS k).length<=8 by rw[<-Jf k];exact hl);have HID:=jq (show Xi v.m.cause k=v.m.cause++47::QS k from rfl);have HX:=jq (show ∀W,Kp w [(w.1.size,QN v,117)] W->W.cell? ⟨w.1.size,0,none⟩=some (.string ⟨v.m.cause.toArray⟩) from fun W hW=>hW.c 0 0 rfl rfl);rw[Yt];generalize QN v=pb at*;generalize Xi v.m.cause k=res at*;generalize v.m.cause=cs at*;generalize Qa (k:Int)=tk at*;generalize QS k=dk at*;have hdl:dk.length<=8:=by have:=HDL.out;omega
 have hs1:∀w,(Op.stringOp .add ⟨cs.toArray⟩ ⟨#[47]⟩).run Tryz.prog w=.ok (.string ⟨(cs++[47]).toArray⟩) w:=fun w=>run_string_add_lists w cs [47] (by omega) (by simp)
 have hs2:∀w,(Op.stringOp .add ⟨(cs++[47]).toArray⟩ ⟨dk.toArray⟩).run Tryz.prog w=.ok (.string ⟨((cs++[47])++dk).toArray⟩) w:=fun w=>run_string_add_lists w (cs++[47]) dk (by simp;omega) (by omega)
 have HR:=jq (show(cs++[47])++dk=res by rw[HID.out];simp);clear hp hk hk2 hl hc hdl HID HDL;rw[HR.out] at hs2;generalize cs++[47]=cs2 at*;unfold S at*
 have y0:=HX.out _ H.out;go_enter Tryz.func109,Tryz.ntmps109
 go_upto_region 1 with (fail)
 generalize w.alloc (.cells pb 117)=W at*
 go_region_held3 (fun w'=>w'.cell? ⟨w.1.size,0,none⟩=some (.string ⟨cs.toArray⟩))
  (first
    |exact k2
    |exact k3
    |go_keep)
  (first
    |(go_at_call 15;refine(HOF.out _ H.out.drew.po).mono ?_;rintro e w2 ⟨rfl,hb2⟩;(try unfold S);have hz:Below W.1.size W w2:=(Below.refl _ W).drew.trans hb2;have k2:=HX.out _ (H.out.here hz))
    |(go_at_call 150;refine(HPR.out _ (H.out.here hz).pw).mono ?_;rintro e w3 ⟨rfl,hb3⟩;have hz2:Below W.1.size W w3:=hz.trans (hb3.mono hz.size);have k3:=HX.out _ (H.out.here hz2)))
 all_goals
  go_wp2_with fail
  first|go_ret|skip
  exact⟨rfl,(H.out.here hz2).bl⟩
end
section
def Zm6(v u:Value):Sem Unit:=Instr.storeAt 117 v u
theorem ZcU(v u:Value):Instr.storeAt 117 v u=Zm6 v u:=rfl
theorem Zn7:(Tryz.prog.info? 117).map (·.size)=some 19:=by kernel_rfl
theorem ZbF{w:World}{g:Nat}{pb cs:Array Value}(hg:BlkB w g pb 117)(hs:pb.size=19)(hc:cs.size=19)(h1:cs.all (·.oneCell')=true):(Zm6 (.pointer (some ⟨g,0,none⟩)) (.agg cs)).run Tryz.prog w=.ok () (w.setRow g cs):=by
 have e:=run_storeVar_row (P:=Tryz.prog) w g 117 117 pb cs hg (by rw[Zn7,hc]) (by omega) h1;unfold Zm6;simp only[Instr.storeAt,Instr.sureAddr,Sem.run_bind,Sem.run_pure,Result.andThen_ok,e]
section
variable {w W:World} {g p:Nat} {pb cs ds:Array Value} {T U:TypeId}
theorem BlkB.row(h:BlkB w g pb T)(cs:Array Value):BlkB (w.setRow g cs) g cs T:=setRow_heap w g pb cs T (0,0) h
theorem ZaT(v:PlV)(hn:v.n.oneCell'=true)(hq:v.q.oneCell'=true)(hf:v.f.oneCell'=true)(hp:v.p.oneCell'=true):(QN v).all (·.oneCell')=true:=by
 have h:∀s:ByteArray,(Value.string s).oneCell'=true:=fun _=>rfl
 unfold QN;simp only[List.all_toArray,List.all_cons,List.all_nil,hn,hq,hf,hp,h,Bool.and_true];rfl
end
theorem ZbG:JO Tryz.prog 56 24 1 16:=Jd Tryz.underlying56 (by kernel_rfl) (by decide) (by decide)
theorem Zir{W:World}{q:Nat}{s:List UInt8}{T:TypeId}(h:BlkB W q #[.string ⟨s.toArray⟩] T):Vk W W.1.size (some ⟨q,0,none⟩) 1 [s]:=by
 refine⟨rfl,fun _=>⟨q,0,rfl,h.lt,fun j z hj k u hk=> ?_⟩⟩
 cases j with
 |zero=>
  simp only[List.getElem?_cons_zero,Option.some.injEq] at hj;subst hj;rw[Nat.zero_mul,Nat.zero_add];exact h.cell k (by simpa[S1,S] using hk)
 |succ j=>simp at hj
theorem Zcg{α:Type}{enc:α->List Value}{k base n c:Nat}{e:TypeId}{W:World}{A:Option Addr}{xs:List α}{g:Nat}(h:Own enc k e W base (.slice A n c) xs)(hg:(Value.slice A n c).ownBlock=some g):base<=g/\g<W.1.size:=by
 obtain⟨A',c',hv,_,_,_,h5⟩:=h.form
 exact(h5 g hg).2
structure TwoO (base:Nat) (W1 X:World) (A1:Option Addr) (n1 c1:Nat) (xs:List (List UInt8)) (A2:Option Addr) (n2 c2:Nat) (ys:List (List UInt8)):Prop where
 o1:Own S1 1 24 X base (.slice A1 n1 c1) xs
 o2:Own S1 1 24 X base (.slice A2 n2 c2) ys
 ap:∀g,(Value.slice A1 n1 c1).ownBlock=some g->(Value.slice A2 n2 c2).ownBlock≠some g
 bl:Below base W1 X
 hb:base<=X.1.size
section
variable {base:Nat} {W1 X Y:World} {A1 A2 A3:Option Addr} {n1 c1 n2 c2 n3 c3:Nat} {xs ys zs:List (List UInt8)}
theorem TwoO.nil(hb:base<=X.1.size)(hl:Below base W1 X):TwoO base W1 X none 0 0 [] none 0 0 []:=⟨Own.nil,Own.nil,fun g h=>by simp[Value.ownBlock] at h,hl,hb⟩
theorem TwoO.alloc(h:TwoO base W1 X A1 n1 c1 xs A2 n2 c2 ys)(o:Obj):TwoO base W1 (X.alloc o) A1 n1 c1 xs A2 n2 c2 ys:=⟨h.o1.alloc o,h.o2.alloc o,h.ap,h.bl.alloc h.hb o,by have:=h.hb;simp;omega⟩
theorem TwoO.drew(h:TwoO base W1 X A1 n1 c1 xs A2 n2 c2 ys):TwoO base W1 X.drew A1 n1 c1 xs A2 n2 c2 ys:=⟨h.o1,h.o2,h.ap,h.bl.drew,h.hb⟩
theorem TwoO.below(h:TwoO base W1 X A1 n1 c1 xs A2 n2 c2 ys)(hb:Below X.1.size X Y):TwoO base W1 Y A1 n1 c1 xs A2 n2 c2 ys:=⟨h.o1.below hb,h.o2.below hb,h.ap,h.bl.trans (hb.mono h.hb),Nat.le_trans h.hb hb.size⟩
theorem TwoO.app1(h:TwoO base W1 X A1 n1 c1 xs A2 n2 c2 ys)(ho:Own S1 1 24 Y base (.slice A3 n3 c3) zs)(hg:X.grownBy Y (Value.slice A1 n1 c1).ownBlock)(hat:A3.map Addr.block=(Value.slice A1 n1 c1).ownBlock\/A3.map Addr.block=some X.1.size):TwoO base W1 Y A3 n3 c3 zs A2 n2 c2 ys:=by
 refine⟨ho,h.o2.grown hg ?_,?_,Qu h.bl hg h.hb (fun g e=>(Zcg h.o1 e).1),Nat.le_trans h.hb hg.size⟩
 ·cases e:(Value.slice A2 n2 c2).ownBlock with
  |none=>exact .inl rfl
  |some g=>exact .inr fun e'=>h.ap g e'.symm e
 ·intro g e e2
  have e3:A3.map Addr.block=some g:=by cases A3 with|none=>simp[Value.ownBlock] at e|some ad=>simpa[Value.ownBlock] using e
  rcases hat with hat|hat
  ·rw[e3] at hat;exact h.ap g hat.symm e2
  ·rw[e3] at hat;injection hat with hat;have:=(Zcg h.o2 e2).2;omega
theorem TwoO.app2(h:TwoO base W1 X A1 n1 c1 xs A2 n2 c2 ys)(ho:Own S1 1 24 Y base (.slice A3 n3 c3) zs)(hg:X.grownBy Y (Value.slice A2 n2 c2).ownBlock)(hat:A3.map Addr.block=(Value.slice A2 n2 c2).ownBlock\/A3.map Addr.block=some X.1.size):TwoO base W1 Y A1 n1 c1 xs A3 n3 c3 zs:=by
 refine⟨h.o1.grown hg ?_,ho,?_,Qu h.bl hg h.hb (fun g e=>(Zcg h.o2 e).1),Nat.le_trans h.hb hg.size⟩
 ·cases e:(Value.slice A1 n1 c1).ownBlock with
  |none=>exact .inl rfl
  |some g=>exact .inr fun e'=>h.ap g e e'.symm
 ·intro g e e2
  have e3:A3.map Addr.block=some g:=by cases A3 with|none=>simp[Value.ownBlock] at e2|some ad=>simpa[Value.ownBlock] using e2
  rcases hat with hat|hat
  ·rw[e3] at hat;exact h.ap g e hat.symm
  ·rw[e3] at hat;injection hat with hat;have:=(Zcg h.o1 e).2;omega
end
end
section
attribute [local go_sem] Oper.semAt_some
attribute [local go_sem ↓] Go.wp_at_zero Go.wp_at_succ VQ
structure PlSz2 (K:Nat) (x:Plan):Prop where
 sz:PlSz K x
 mv:∀i,(Qa (x.mv i)).length<=K
 rest:∀i,(Qa (x.rest i)).length<=K
theorem PlSz.more{K L:Nat}{x:Plan}(h:PlSz K x)(hKL:K<=L):PlSz L x:=
 ⟨fun i=>Nat.le_trans (h.n i) hKL,fun i=>Nat.le_trans (h.m i) hKL,fun i=>Nat.le_trans (h.f i) hKL,fun i=>Nat.le_trans (h.p i) hKL⟩
theorem Zay(v:PlV):(QN v).size=19:=rfl
theorem ZeQ(v:PlV)(w:World):Calls Tryz.prog 65 #[.agg (plA v).toArray] w fun e w'=>e=.returned (.func (.func 107) #[] #[.pointer (some ⟨w.1.size,0,none⟩)])/\w'=w.alloc (.cells (QN v) 117):=by
 rw[Yt];generalize QN v=pb;go_enter Tryz.func65,Tryz.ntmps65
 go_wp2
 go_ret
 exact⟨rfl,rfl⟩
theorem YM(n:Int):(Qa n==[])=decide (n=0):=by rw[Bool.eq_iff_iff];simp only[beq_iff_eq,decide_eq_true_eq];exact Vt
theorem Vd(l:List UInt8):l.isEmpty=(l==[]):=by cases l<;>rfl
def Ve(x:Plan)(N k:Nat):Int:=if Xc x.n k=0 then x.rest N else 0
theorem ZjB(n:List Int)(i:Nat):Xc n (i+1)=Xc n i+if n.getD i 0=0 then 0 else 1:=by
 by_cases h:i<n.length
 ·exact ZbQ n i h
 ·have e:n.getD i 0=0:=by rw[List.getD_eq_getElem?_getD,List.getElem?_eq_none (by omega)];rfl
  rw[if_pos e];unfold Xc;rw[List.take_of_length_le (by omega),List.take_of_length_le (by omega)];omega
theorem Zaz(m:Mp)(x:Plan)(old:List Lot){i j:Nat}(h:i<=j):QM m x old i <+: QM m x old j:=by
 obtain⟨d,rfl⟩:=Nat.exists_eq_add_of_le h
 clear h
 induction d with
 |zero=>exact List.prefix_rfl
 |succ d ih=>rw[<-Nat.add_assoc,XR];exact ih.trans (List.prefix_append _ _)
theorem BlkB.sets7{w:World}{p:Nat}{T:TypeId}{a b c d e f g a' b' c' d' e' f' g':Value}(h:BlkB w p #[a,b,c,d,e,f,g] T):
 BlkB (((((((w.setCell ⟨p,0,none⟩ a').setCell ⟨p,1,none⟩ b').setCell ⟨p,2,none⟩ c').setCell ⟨p,3,none⟩ d').setCell ⟨p,4,none⟩ e').setCell ⟨p,5,none⟩ f').setCell ⟨p,6,none⟩ g') p #[a',b',c',d',e',f',g'] T:=
 by
 have h7:=((((((h.set 0 a').set 1 b').set 2 c').set 3 d').set 4 e').set 5 f').set 6 g';simpa only[List.setIfInBounds_toArray,List.set_cons_zero,List.set_cons_succ] using h7
theorem Below.sets7{W w:World}{n p:Nat}{a' b' c' d' e' f' g':Value}(h:Below n W w)(hp:n<=p):
 Below n W (((((((w.setCell ⟨p,0,none⟩ a').setCell ⟨p,1,none⟩ b').setCell ⟨p,2,none⟩ c').setCell ⟨p,3,none⟩ d').setCell ⟨p,4,none⟩ e').setCell ⟨p,5,none⟩ f').setCell ⟨p,6,none⟩ g'):=
 ((((((h.setCell hp _).setCell hp _).setCell hp _).setCell hp _).setCell hp _).setCell hp _).setCell hp _
theorem JN(n:Nat)(hn:1<=n)(St:Nat->Prop)(Bx n₀:Nat)(v:PlV)(x:Plan)(old:List Lot)(pn pm pf pp:Nat)(w:World)(hp:Env w)
 (hB:BlkB w Bx (QN v) 117) (hM:PlM w n₀ v x old pn pm pf pp) (hz:PlSz2 20000 x) (hn₀:n₀<=w.1.size) (hl:old.length<=900000) (hc:v.m.cause.length<=20000) (hS:∀b,b<n₀->St b) (hSx:St Bx)
 (hEnv:∀W W',Env W->KeepS St W W'->Env W'):
 SeqStopsK Fence.wide n Tryz.prog 107 #[.pointer (some ⟨Bx,0,none⟩)] (fun z:{z:Nat×Lot//z∈QE v.m x old}=>#[Value.int .i64 (z.1.1:Int),XV z.1.2]) (KeepS St) (fun ys=>ys.map (·.1)=QE v.m x old) (fun pre=>pre.map (·.1) <+: QE v.m x old) (QE v.m x old).length w:=fun l J Jx W hW hJ hJx hY h0=>by
 have hPM:=hM.below (hW.mono hn₀);have hBX:BlkB W Bx (QN v) 117:=hB.here hW;have HEV:=jq (hp.here hW);have HEN:=jq hEnv;have HJ:=jq hJ;have HY:=jq hY;have H0:=jq h0;have HST:=jq hS;have HSX:=jq hSx;have HN0:=jq (show n₀<=W.1.size by have:=hW.size;omega);have HZ:=jq hz;obtain⟨N,hN⟩:∃N,N=v.on:=⟨_,rfl⟩
 have hlen:N=old.length:=by rw[hN];exact hPM.len
 have hNl:N<=1000000:=by omega
 have HLEN:=jq hlen;have HM:=jq hPM;have HBX:=jq hBX;have E3:=jq (show(QN v)[3]?=some (.string ⟨v.m.other.toArray⟩) from rfl);have E11:=jq (show(QN v)[11]?=some (.slice v.oA N v.oc) by rw[hN];rfl);have E15:=jq (show(QN v)[15]?=some (.slice (some ⟨pn,0,none⟩) N N) by rw[hN,<-hPM.en];rfl);have ES:=jq (Zay v)
 have HMV:=jq (show ∀(i:Nat) (W':World),i<N->Env W'->PlM W' n₀ v x old pn pm pf pp->n₀<=W'.1.size->Calls Tryz.prog 108 #[.agg (QN v),.int .i64 i] W' fun e w'=>e=.returned (S (Qa (x.mv i)))/\Below W'.1.size W' w' from fun i W' hi he hm hle=>
  ZdN v x old pn pm pf pp i W' he (hm.more hle) (hz.sz.more (by omega)) (by omega) (by omega))
 have HID:=jq (show ∀(k:Nat) (W':World),1<=k->k<=1000000->Env W'->Calls Tryz.prog 109 #[.agg (QN v),.int .i64 k] W' fun e w'=>e=.returned (S (Xi v.m.cause k))/\Below W'.1.size W' w' from fun k W' h1 h2 he=>
  Ziq v k W' he h1 h2 (by omega))
 have HLT:=jq (show Xg W n₀ v.oA N old by rw[hN];exact hPM.lots);have c11:=hBX.cell 11 E11.out;have HNN:=jq hN;generalize hpb:QN v=pb at*;generalize hoA:v.oA=oA at*;generalize v.oc=oc at*;have HOA:=jq hoA;clear hB hM hW hJ hJx hY h0 hn₀ hS hSx hEnv hp hz hPM hlen hBX hN hpb hoA hl hc;refine callsIn_of_wp Tryz.func107 rfl trivial ?_ rfl;simp only[Tryz.ntmps107,List.size_toArray,List.length_cons,List.length_nil,Nat.reduceAdd,Nat.reduceSub,Array.replicate_succ,Array.replicate_zero,List.push_toArray,List.append_toArray,List.nil_append,List.cons_append]
 gi_wp2
 gi_loopw [3,5,12] (fun s _ j wr=>∃k:Nat,k<=N/\j=.int .i64 k/\s=.string ⟨(Qa (x.rest k)).toArray⟩/\Hid (Below W.1.size W wr)) (fun _ _ j _=>N-(intOf j).toNat)
 case atStart=>exact⟨0,Nat.zero_le _,rfl,rfl,Below.refl _ _⟩
 case round=>
  obtain⟨k,hk,rfl,rfl,HB⟩:=hrel
  clear c11;have hBX2:BlkB wr Bx pb 117:=HBX.out.here HB.out
  by_cases hlt:k<N
  ·have c15:=hBX2.cell 15 E15.out;have hld:=XO hBX2 ES.out;have pnk:wr.cell? ⟨pn,k,none⟩=some (.string ⟨(Qa (x.n.getD k 0)).toArray⟩):=((HM.out.below (HB.out.mono HN0.out)).bn.cell k (by rw[<-HNN.out,QD _ _ _ _ hlt,if_pos hlt]));have i1:(0:Int)<=(k:Int):=by omega
   have i2:(k:Int)<(N:Int):=by omega
   have HRS:=jq (Zb9 x k)
   by_cases h0:x.n.getD k 0=0
   ·have hs1:(Qa (x.n.getD k 0)==[])=true:=by rw[YM];simpa using h0
    have hs2:(Qa (x.n.getD k 0)).isEmpty=true:=by rw[Vd];exact hs1
    have HMK:=jq (HMV.out k wr hlt (HEV.out.here HB.out) (HM.out.below (HB.out.mono HN0.out)) (Nat.le_trans HN0.out HB.out.size));have HAD:=jq (fun W hp=>Xv (Qa (x.rest k)) (Qa (x.mv k)) W hp (by have:=HZ.out.rest k;omega) (by have:=HZ.out.mv k;omega));rw[Qc,Qc] at HAD;have HRR:=jq (show x.rest k+x.mv k=x.rest (k+1) by rw[HRS.out,if_pos h0]);rw[HRR.out] at HAD;generalize Qa (x.n.getD k 0)=tn at*;generalize hrk:Qa (x.rest (k+1))=trk at*;have HRK:=jq hrk;clear h0 hrk hBX2;generalize Qa (x.rest k)=tr at*;generalize Qa (x.mv k)=tm at*;unfold S at HMK
    gi_wp2
    refine⟨trivial,(callsIn_wide.2 HMK.out).mono ?_⟩;rintro e w1 ⟨rfl,hb1⟩;have HB1:=jq (HB.out.trans (hb1.mono HB.out.size));clear hb1 hld pnk c15
    gi_wp2
    refine⟨trivial,(callsIn_wide.2 (HAD.out _ (HEV.out.here HB1.out).pow)).mono ?_⟩;rintro e w2 ⟨rfl,hb2⟩
    try unfold S
    have HB2:=jq (HB1.out.trans (hb2.mono HB1.out.size));clear hb2
    gi_wp2
    go_roundw
    case rel=>exact⟨k+1,by omega,by go_num,by rw[HRK.out],HB2⟩
    case measure=>simp[intOf];omega
   ·have hs1:(Qa (x.n.getD k 0)==[])=false:=by rw[YM];simpa using h0
    have hs2:(Qa (x.n.getD k 0)).isEmpty=false:=by rw[Vd];exact hs1
    have HRR:=jq (show x.rest (k+1)=x.rest k by rw[HRS.out,if_neg h0,Int.add_zero]);generalize Qa (x.n.getD k 0)=tn at*;clear h0 hBX2
    gi_wp2
    go_roundw
    case rel=>exact⟨k+1,by omega,by go_num,by rw[HRR.out],HB⟩
    case measure=>simp[intOf];omega
  ·obtain rfl:k=N:=by omega
   have c11:=hBX2.cell 11 E11.out;have HC0:=jq (HJ.out [] W wr none H0.out (Ju HB.out) (fun r e=>by cases e));have HE0:=jq (HEV.out.here HB.out);have HP0:=jq (HM.out.below (HB.out.mono HN0.out));have HX0:=jq hBX2;have HS0:=jq HB.out.size;have HR0:=jq (show Ve x k 0=x.rest k by unfold Ve Xc;simp);clear hBX2 HB hlt hk H0
   gi_wp2
   gi_loopw [3,4,6,7,8,30] (fun s c _ _ _ j wr=>∃(i:Nat) (pre:List {z:Nat×Lot//z∈QE v.m x old}),i<=k/\j=.int .i64 i/\c=.int .i64 (Xc x.n i)/\s=.string ⟨(Qa (Ve x k i)).toArray⟩/\Hid (pre.map (·.1)=QM v.m x old i)/\Hid (J pre wr)/\Hid (PlM wr n₀ v x old pn pm pf pp)/\Hid (BlkB wr Bx pb 117)/\Hid (Env wr)/\Hid (W.1.size<=wr.1.size)) (fun _ _ _ _ _ j _=>k-(intOf j).toNat)
   case atStart=>exact⟨0,[],Nat.zero_le _,rfl,by simp[Xc],by rw[HR0.out],(show _=_ by simp[QM]),HC0,HP0,HX0,HE0,HS0⟩
   case round=>
    clear HC0 HE0 HP0 HX0 HS0 HR0 c11;obtain⟨i,pre,hi,rfl,rfl,rfl,HPR,HJP,HP,HBP,HE,HSZ⟩:=hrel
    by_cases hlt:i<k
    ·have hLT:Xg wr n₀ oA k old:=by rw[HNN.out,<-HOA.out];exact HP.out.lots
     obtain⟨b,off,y,hAe,hb,hy,d0,d1,d2,d3,d4,d5,d6⟩:=hLT.lot7 hlt
     subst hAe;have HYI:=jq hy;clear hy hLT;have c15:=HBP.out.cell 15 E15.out;have pnk:wr.cell? ⟨pn,i,none⟩=some (.string ⟨(Qa (x.n.getD i 0)).toArray⟩):=(HP.out.bn.cell i (by rw[<-HNN.out,QD _ _ _ _ hlt,if_pos hlt]));have i1:(0:Int)<=(i:Int):=by omega
     have i2:(i:Int)<(k:Int):=by omega
     have hbxl:Bx<wr.1.size:=HBP.out.lt;have hpnl:pn<wr.1.size:=HP.out.bn.lt;have hbx:Bx≠wr.1.size:=by omega
     have hpn:pn≠wr.1.size:=by omega
     have HYB:=jq (heap_alloc_new wr (.cells #[.string ⟨y.id.toArray⟩,.string ⟨y.inst.toArray⟩,.int .i64 y.acq,.int .i64 y.opn,.string ⟨y.q.toArray⟩,.string ⟨y.c.toArray⟩,.string ⟨y.u.toArray⟩] 50));have HBW:=jq ((Below.refl wr.1.size wr).alloc (Nat.le_refl _) (.cells #[.string ⟨y.id.toArray⟩,.string ⟨y.inst.toArray⟩,.int .i64 y.acq,.int .i64 y.opn,.string ⟨y.q.toArray⟩,.string ⟨y.c.toArray⟩,.string ⟨y.u.toArray⟩] 50));have HFS:=jq (XR v.m x old i);rw[HYI.out] at HFS;have HCN:=jq (ZjB x.n i);have HPN:=jq (show ∀X,PlM X n₀ v x old pn pm pf pp->X.cell? ⟨pn,i,none⟩=some (.string ⟨(Qa (x.n.getD i 0)).toArray⟩) from fun X hm=>hm.bn.cell i (by rw[<-HNN.out,QD _ _ _ _ hlt,if_pos hlt]))
     by_cases h0:x.n.getD i 0=0
     ·have hs1:(Qa (x.n.getD i 0)==[])=true:=by rw[YM];simpa using h0
      have hs2:(Qa (x.n.getD i 0)).isEmpty=true:=by rw[Vd];exact hs1
      have HF2:=jq (show QM v.m x old (i+1)=QM v.m x old i by rw[HFS.out];simp only[if_pos h0,List.append_nil]);have HC2:=jq (show Xc x.n (i+1)=Xc x.n i by rw[HCN.out,if_pos h0,Nat.add_zero]);have HR2:=jq (show Ve x k (i+1)=Ve x k i by unfold Ve;rw[HC2.out]);generalize Qa (x.n.getD i 0)=tn at*;clear h0
      gi_wp2
      go_roundw
      case rel=>exact⟨i+1,pre,by omega,by go_num,by rw[HC2.out],by rw[HR2.out],(show _=_ by rw[HF2.out];exact HPR.out),HJ.out pre wr _ none HJP.out (Ju HBW.out) (fun r e=>by cases e),HP.out.below (HBW.out.mono (Nat.le_trans HN0.out HSZ.out)),HBP.out.here HBW.out,HE.out.here HBW.out,Nat.le_trans HSZ.out HBW.out.size⟩
      case measure=>simp[intOf];omega
     ·have hs1:(Qa (x.n.getD i 0)==[])=false:=by rw[YM];simpa using h0
      have hs2:(Qa (x.n.getD i 0)).isEmpty=false:=by rw[Vd];exact hs1
      have hcn:Xc x.n i<=i:=Ze2 x.n i;obtain⟨z,hzd⟩:∃z,z=Zg1 v.m x old.length i y:=⟨_,rfl⟩
      have HF2:=jq (show QM v.m x old (i+1)=QM v.m x old i++[(i,z)] by rw[HFS.out,hzd];simp only[if_neg h0]);have HC2:=jq (show Xc x.n (i+1)=Xc x.n i+1 by rw[HCN.out,if_neg h0]);have HR2:=jq (show Ve x k (i+1)=0 by unfold Ve;rw[HC2.out,if_neg (by omega)]);have HZ1:=jq (show z.id=Xi v.m.cause (Xc x.n i+1)/\z.inst=v.m.other/\z.acq=y.acq/\z.opn=y.opn/\z.q=Qa (x.n.getD i 0)/\z.c=Qa (x.mv i+Ve x k i)/\z.u=Qa (x.n.getD i 0) by rw[hzd,HLEN.out];exact⟨rfl,rfl,rfl,rfl,rfl,rfl,rfl⟩)
      have hmem:(i,z)∈QE v.m x old:=by
       have h1:QM v.m x old (i+1) <+: QE v.m x old:=Zaz v.m x old (by have:=HLEN.out;omega);exact h1.subset (by rw[HF2.out];simp)
      clear hzd;have HRD:=jq (fun W hp=>Xv (Qa (x.mv i)) (Qa (Ve x k i)) W hp (by have:=HZ.out.mv i;omega) (by unfold Ve;split;(have:=HZ.out.rest k;omega);(rw[show Qa (0:Int)=[] from rfl];simp)));rw[Qc,Qc] at HRD;have HMK:=jq (fun W' he hm hle=>HMV.out i W' hlt he hm hle);have HIK:=jq (fun W' he=>HID.out (Xc x.n i+1) W' (by omega) (by omega) he);rw[show((Xc x.n i+1:Nat):Int)=(Xc x.n i:Int)+1 from by omega] at HIK;obtain⟨hz1,hz2,hz3,hz4,hz5,hz6,hz7⟩:=HZ1.out
      rw[<-hz1] at HIK;rw[<-hz6] at HRD;generalize hcnx:Xc x.n i=cn at*;have HCX:=jq hcnx;generalize hres:Ve x k i=rr at*;have HRX:=jq hres;clear hcnx hres;generalize Qa (x.mv i)=tmv at*;generalize Qa (x.n.getD i 0)=tn at*;generalize Qa rr=trr at*;have HZI:=jq (show ZnJ z=#[.string ⟨z.id.toArray⟩,.string ⟨v.m.other.toArray⟩,.int .i64 y.acq,.int .i64 y.opn,.string ⟨tn.toArray⟩,.string ⟨z.c.toArray⟩,.string ⟨tn.toArray⟩] by unfold ZnJ;rw[hz2,hz3,hz4,hz5,hz7]);clear h0 hz1 hz2 hz3 hz4 hz5 hz6 hz7;unfold S at HMK HIK HRD
      gi_wp2
      generalize hWy:wr.alloc (.cells #[.string ⟨y.id.toArray⟩,.string ⟨y.inst.toArray⟩,.int .i64 y.acq,.int .i64 y.opn,.string ⟨y.q.toArray⟩,.string ⟨y.c.toArray⟩,.string ⟨y.u.toArray⟩] 50)=Wy at*;clear hWy d0 d1 d2 d3 d4 d5 d6 c15 pnk
      have HSS:=jq (show ∀X,Below Wy.1.size Wy X->(X.cell? ⟨Bx,3,none⟩=some (.string ⟨v.m.other.toArray⟩)/\X.cell? ⟨Bx,15,none⟩=some (.slice (some ⟨pn,0,none⟩) k k)/\(Zcf (.pointer (some ⟨Bx,0,none⟩))).run Tryz.prog X=.ok (.agg pb) X/\X.cell? ⟨wr.1.size,2,none⟩=some (.int .i64 y.acq)/\X.cell? ⟨wr.1.size,3,none⟩=some (.int .i64 y.opn)/\X.cell? ⟨pn,i,none⟩=some (.string ⟨tn.toArray⟩)) from fun X h=>by
       have hb:=HBW.out.trans (h.mono HBW.out.size);have hX:=HBP.out.here hb;have hY:BlkB X wr.1.size _ 50:=BlkB.here HYB.out h;exact⟨hX.cell 3 E3.out,hX.cell 15 E15.out,XO hX ES.out,hY.cell 2 rfl,hY.cell 3 rfl,HPN.out X (HP.out.below (hb.mono (Nat.le_trans HN0.out HSZ.out)))⟩)
      have HPX:=jq (show ∀X,Below Wy.1.size Wy X->Env X/\PlM X n₀ v x old pn pm pf pp/\n₀<=X.1.size from fun X h=>by
       have hb:=HBW.out.trans (h.mono HBW.out.size);exact⟨HE.out.here hb,HP.out.below (hb.mono (Nat.le_trans HN0.out HSZ.out)),Nat.le_trans (Nat.le_trans HN0.out HSZ.out) hb.size⟩)
      obtain⟨y1,y2,y3,y4,y5,y6⟩:=HSS.out _ (Below.refl _ Wy)
      have HWR:=jq (Below.refl Wy.1.size Wy);refine wpIn_wide.2 ?_
      go_cut [8] (fun s wc=>∃q8,s=.pointer (some ⟨q8,0,none⟩)/\Hid (BlkB wc q8 (ZnJ z) 50)/\Hid (Below Wy.1.size Wy wc))
      case first=>
       go_region_held3? (fun w'=>w'.cell? ⟨Bx,3,none⟩=some (.string ⟨v.m.other.toArray⟩)/\w'.cell? ⟨Bx,15,none⟩=some (.slice (some ⟨pn,0,none⟩) k k)/\(Zcf (.pointer (some ⟨Bx,0,none⟩))).run Tryz.prog w'=.ok (.agg pb) w'/\w'.cell? ⟨wr.1.size,2,none⟩=some (.int .i64 y.acq)/\w'.cell? ⟨wr.1.size,3,none⟩=some (.int .i64 y.opn)/\w'.cell? ⟨pn,i,none⟩=some (.string ⟨tn.toArray⟩))
        (first
          |with_reducible exact k4 _ _ _ _ _ _ _
          |with_reducible exact HSS.out _ hg3
          |with_reducible exact HSS.out _ (hg3.alloc hg3.size _)
          |with_reducible exact HSS.out _ hg2
          |with_reducible exact HSS.out _ (hg2.alloc hg2.size _)
          |with_reducible exact HSS.out _ hg1
          |with_reducible exact HSS.out _ (hg1.alloc hg1.size _)
          |with_reducible exact HSS.out _ HWR.out.drew
          |with_reducible exact HSS.out _ (HWR.out.alloc (Nat.le_refl _) _).drew
          |go_keep)
        (first
          |(go_at_call 109
            first
             |((with_reducible refine(HIK.out _ (HPX.out _ HWR.out.drew).1).mono ?_);rintro e w1 ⟨rfl,hb1⟩;have hg1:Below Wy.1.size Wy w1:=HWR.out.drew.trans hb1)
             |((with_reducible refine(HIK.out _ (HPX.out _ (HWR.out.alloc (Nat.le_refl _) (.cells #[.string ⟨#[]⟩,.string ⟨#[]⟩,.int .i64 0,.int .i64 0,.string ⟨#[]⟩,.string ⟨#[]⟩,.string ⟨#[]⟩] 50)).drew).1).mono ?_);rintro e w1 ⟨rfl,hb1⟩;have hg1:Below Wy.1.size Wy w1:=(HWR.out.alloc (Nat.le_refl _) (.cells #[.string ⟨#[]⟩,.string ⟨#[]⟩,.int .i64 0,.int .i64 0,.string ⟨#[]⟩,.string ⟨#[]⟩,.string ⟨#[]⟩] 50)).drew.trans (hb1.mono (by simp));have hq1:BlkB w1 Wy.1.size #[.string ⟨#[]⟩,.string ⟨#[]⟩,.int .i64 0,.int .i64 0,.string ⟨#[]⟩,.string ⟨#[]⟩,.string ⟨#[]⟩] 50:=BlkB.here (w:=(Wy.alloc (.cells #[.string ⟨#[]⟩,.string ⟨#[]⟩,.int .i64 0,.int .i64 0,.string ⟨#[]⟩,.string ⟨#[]⟩,.string ⟨#[]⟩] 50)).drew) (heap_alloc_new Wy _) hb1;have hqq1:Wy.1.size<=Wy.1.size:=Nat.le_refl _))
          |(go_at_call 108
            first
             |((with_reducible refine(HMK.out _ (HPX.out _ hg1).1 (HPX.out _ hg1).2.1 (HPX.out _ hg1).2.2).mono ?_);rintro e w2 ⟨rfl,hb2⟩;have hg2:Below Wy.1.size Wy w2:=hg1.trans (hb2.mono hg1.size);first|(have hq2:=hq1.here hb2;have hqq2:=hqq1)|skip)
             |((with_reducible refine(HMK.out _ (HPX.out _ (hg1.alloc hg1.size (.cells #[.string ⟨#[]⟩,.string ⟨#[]⟩,.int .i64 0,.int .i64 0,.string ⟨#[]⟩,.string ⟨#[]⟩,.string ⟨#[]⟩] 50))).1 (HPX.out _ (hg1.alloc hg1.size _)).2.1 (HPX.out _ (hg1.alloc hg1.size _)).2.2).mono ?_);rintro e w2 ⟨rfl,hb2⟩;have hg2:Below Wy.1.size Wy w2:=(hg1.alloc hg1.size (.cells #[.string ⟨#[]⟩,.string ⟨#[]⟩,.int .i64 0,.int .i64 0,.string ⟨#[]⟩,.string ⟨#[]⟩,.string ⟨#[]⟩] 50)).trans (hb2.mono (by have:=hg1.size;simp;omega));have hq2:BlkB w2 w1.1.size #[.string ⟨#[]⟩,.string ⟨#[]⟩,.int .i64 0,.int .i64 0,.string ⟨#[]⟩,.string ⟨#[]⟩,.string ⟨#[]⟩] 50:=BlkB.here (w:=w1.alloc (.cells #[.string ⟨#[]⟩,.string ⟨#[]⟩,.int .i64 0,.int .i64 0,.string ⟨#[]⟩,.string ⟨#[]⟩,.string ⟨#[]⟩] 50)) (heap_alloc_new w1 _) hb2;have hqq2:=hg1.size))
          |(go_at_call 11
            first
             |((with_reducible refine(HRD.out _ (HPX.out _ hg2).1.pow).mono ?_);rintro e w3 ⟨rfl,hb3⟩;unfold S;have hg3:Below Wy.1.size Wy w3:=hg2.trans (hb3.mono hg2.size);first|(have hq3b:=hq2.here hb3;have hq3:=hqq2;have n0:=hq3b.cell 0 rfl;have n1:=hq3b.cell 1 rfl;have n2:=hq3b.cell 2 rfl;have n3:=hq3b.cell 3 rfl;have n4:=hq3b.cell 4 rfl;have n5:=hq3b.cell 5 rfl;have n6:=hq3b.cell 6 rfl;have g0:=hq3b.frozen 0;have g1:=hq3b.frozen 1;have g2:=hq3b.frozen 2;have g3:=hq3b.frozen 3;have g4:=hq3b.frozen 4;have g5:=hq3b.frozen 5;have g6:=hq3b.frozen 6;have k4:=(fun(a b c d e f g:Value)=>HSS.out _ (Below.sets7 (a':=a) (b':=b) (c':=c) (d':=d) (e':=e) (f':=f) (g':=g) hg3 hq3)))|(have hno:True:=trivial))
             |((with_reducible refine(HRD.out _ (HPX.out _ (hg2.alloc hg2.size (.cells #[.string ⟨#[]⟩,.string ⟨#[]⟩,.int .i64 0,.int .i64 0,.string ⟨#[]⟩,.string ⟨#[]⟩,.string ⟨#[]⟩] 50))).1.pow).mono ?_);rintro e w3 ⟨rfl,hb3⟩;unfold S;have hg3:Below Wy.1.size Wy w3:=(hg2.alloc hg2.size (.cells #[.string ⟨#[]⟩,.string ⟨#[]⟩,.int .i64 0,.int .i64 0,.string ⟨#[]⟩,.string ⟨#[]⟩,.string ⟨#[]⟩] 50)).trans (hb3.mono (by have:=hg2.size;simp;omega));have hq3b:BlkB w3 w2.1.size #[.string ⟨#[]⟩,.string ⟨#[]⟩,.int .i64 0,.int .i64 0,.string ⟨#[]⟩,.string ⟨#[]⟩,.string ⟨#[]⟩] 50:=BlkB.here (w:=w2.alloc (.cells #[.string ⟨#[]⟩,.string ⟨#[]⟩,.int .i64 0,.int .i64 0,.string ⟨#[]⟩,.string ⟨#[]⟩,.string ⟨#[]⟩] 50)) (heap_alloc_new w2 _) hb3;have hq3:=hg2.size;have n0:=hq3b.cell 0 rfl;have n1:=hq3b.cell 1 rfl;have n2:=hq3b.cell 2 rfl;have n3:=hq3b.cell 3 rfl;have n4:=hq3b.cell 4 rfl;have n5:=hq3b.cell 5 rfl;have n6:=hq3b.cell 6 rfl;have g0:=hq3b.frozen 0;have g1:=hq3b.frozen 1;have g2:=hq3b.frozen 2;have g3:=hq3b.frozen 3;have g4:=hq3b.frozen 4;have g5:=hq3b.frozen 5;have g6:=hq3b.frozen 6;have k4:=(fun(a b c d e f g:Value)=>HSS.out _ (Below.sets7 (a':=a) (b':=b) (c':=c) (d':=d) (e':=e) (f':=f) (g':=g) hg3 hq3)))))
       all_goals
        go_wp2_with fail
        go_meet
        first
         |(with_reducible refine⟨_,rfl,jq ?_,jq ?_⟩;(with_reducible show BlkB (World.alloc _ _) _ _ _);(·(rw[HZI.out];exact heap_alloc_new w3 _));(·(exact hg3.alloc hg3.size _)))
         |(with_reducible refine⟨_,rfl,jq ?_,jq ?_⟩;(with_reducible show BlkB (World.setCell _ _ _) _ _ _);(·(rw[HZI.out];with_reducible exact BlkB.sets7 hq3b));(·(with_reducible exact Below.sets7 hg3 hq3)))
         |(refine⟨w3.1.size,rfl,?_,jq (hg3.alloc hg3.size _)⟩;show BlkB _ _ _ _;rw[HZI.out];exact heap_alloc_new w3 _)
      case rest=>
       clear HRD HMK HIK HSS HPN HWR y1 y2 y3 y4 y5 y6;obtain⟨q8,rfl,HQ8,HWC⟩:=hcut
       have hb:=HBW.out.trans (HWC.out.mono HBW.out.size);have HJ1:=jq (HJ.out pre wr wc none HJP.out (Ju hb) (fun r e=>by cases e));have HP1:=jq (HP.out.below (hb.mono (Nat.le_trans HN0.out HSZ.out)));have HB1:=jq (HBP.out.here hb);have HE1:=jq (HE.out.here hb);have HS1:=jq (Nat.le_trans HSZ.out hb.size);have hq8:BlkB wc q8 #[.string ⟨z.id.toArray⟩,.string ⟨z.inst.toArray⟩,.int .i64 z.acq,.int .i64 z.opn,.string ⟨z.q.toArray⟩,.string ⟨z.c.toArray⟩,.string ⟨z.u.toArray⟩] 50:=HQ8.out;have c0:=hq8.cell 0 rfl;have c1:=hq8.cell 1 rfl;have c2:=hq8.cell 2 rfl;have c3:=hq8.cell 3 rfl;have c4:=hq8.cell 4 rfl;have c5:=hq8.cell 5 rfl;have c6:=hq8.cell 6 rfl;clear HQ8 HWC HZI hb hq8 HPX HBP HP HE HJP HYB HBW
       obtain⟨fn,tmps,assign,body,hy,hR⟩:=HY.out pre ⟨(i,z),hmem⟩ _ HJ1.out (by
        have h1:=(Zaz v.m x old (show i+1<=old.length by have:=HLEN.out;omega)).length_le;rw[HF2.out,List.length_append,<-HPR.out,List.length_map,List.length_singleton] at h1;exact h1)
       dsimp only[XV,S] at hy
       have HR:=jq hR;clear hR
       gi_wp2
       refine HR.out.mono ?_;rintro e W3 (⟨rfl,hJ3,hk3⟩|⟨rfl,hJx3⟩)
       ·have HJ3:=jq hJ3;have HK3:=jq hk3;clear hJ3 hk3
        gi_wp2
        go_roundw
        case rel=>exact⟨i+1,pre++[⟨(i,z),hmem⟩],by omega,by go_num,by rw[HC2.out];go_num,by rw[HR2.out];rfl,(show _=_ by rw[HF2.out,List.map_append,HPR.out];rfl),HJ3,HP1.out.kept (Nat.le_trans HN0.out HS1.out) (fun b hb=>HK3.out.2 b (HST.out b hb) (Nat.lt_of_lt_of_le hb (Nat.le_trans HN0.out HS1.out))),HK3.out.blk HB1.out HSX.out,HEN.out _ _ HE1.out HK3.out,Nat.le_trans HS1.out HK3.out.1⟩
        case measure=>simp[intOf];omega
       ·have HJ3:=jq hJx3;clear hJx3
        gi_wp2
        refine bodyPost_ret (results_none rfl _ _ _) rfl ?_;exact⟨⟨_,rfl⟩,.inr ⟨pre++[⟨(i,z),hmem⟩],by rw[List.map_append,HPR.out];show _++[(i,z)] <+: _;rw[<-HF2.out];exact Zaz v.m x old (by have:=HLEN.out;omega),HJ3.out⟩⟩
    ·obtain rfl:i=k:=by omega
     have c15:=HBP.out.cell 15 E15.out
     gi_wp2
     go_end0
     exact⟨⟨_,rfl⟩,.inl ⟨pre,(by rw[HPR.out,HLEN.out];rfl),HJP.out⟩⟩
end
end Go.Proofs.YtmamnnaiogidaaaGreatDoor
