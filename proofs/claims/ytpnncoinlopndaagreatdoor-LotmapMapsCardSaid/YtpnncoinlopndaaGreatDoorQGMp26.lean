/- Mv, Mv2, Id. -/
import Derived.Test.YtpnncoinlopndaaGreatDoorQGMp29
import Derived.Test.YtpnncoinlopndaaGreatDoorQGMp40
import Derived.Laws.Concat
import Derived.Laws.Tables
set_option maxRecDepth 100000
set_option maxHeartbeats 2000000
namespace Go.Proofs.YtpnncoinlopndaaGreatDoor
open Go.Lib renaming hid→jq
open Go.RowKit Go.Shelf
section
attribute [local go_sem ↓] Go.wp_at_zero Go.wp_at_succ
structure PlM (W:World) (B:Nat) (v:PlV) (x:Plan) (old:List Lot) (pn pm pf pp:Nat):Prop where
 len:v.on=old.length
 lots:QU W B v.oA v.on old
 parts:v.parts=Qa x.parts
 part:v.part=Qf x.part
 en:v.n=.slice (some ⟨pn,0,none⟩) v.on v.on
 em:v.q=.slice (some ⟨pm,0,none⟩) v.on v.on
 ef:v.f=.slice (some ⟨pf,0,none⟩) v.on v.on
 ep:v.p=.slice (some ⟨pp,0,none⟩) v.on v.on
 bn:BlkB W pn (Qo x.n v.on v.on) 24
 bm:BlkB W pm (Qo x.m v.on v.on) 24
 bf:BlkB W pf (Qo x.f v.on v.on) 24
 bp:BlkB W pp (Qo x.p v.on v.on) 24
 ln:pn<B
 lm:pm<B
 lf:pf<B
 lp:pp<B
section
variable {W W':World} {B:Nat} {v:PlV} {x:Plan} {old:List Lot} {pn pm pf pp:Nat}
theorem PlM.kept(h:PlM W B v x old pn pm pf pp)(_hB:B<=W.1.size)(hb:∀b,b<B->W'.heap[b]?=W.heap[b]?):PlM W' B v x old pn pm pf pp:=
 {h with lots:=h.lots.keep fun p hp=>World.cell?_of_block (hb p.block hp),bn:=(hb _ h.ln).trans h.bn,bm:=(hb _ h.lm).trans h.bm,bf:=(hb _ h.lf).trans h.bf,bp:=(hb _ h.lp).trans h.bp}
theorem PlM.below(h:PlM W B v x old pn pm pf pp)(hb:Below B W W'):PlM W' B v x old pn pm pf pp:=
 {h with lots:=h.lots.below hb,bn:=(hb.block _ h.ln).trans h.bn,bm:=(hb.block _ h.lm).trans h.bm,bf:=(hb.block _ h.lf).trans h.bf,bp:=(hb.block _ h.lp).trans h.bp}
theorem PlM.more{B':Nat}(h:PlM W B v x old pn pm pf pp)(hB:B<=B'):PlM W B' v x old pn pm pf pp:=
 {h with lots:=h.lots.more hB,ln:=Nat.lt_of_lt_of_le h.ln hB,lm:=Nat.lt_of_lt_of_le h.lm hB,lf:=Nat.lt_of_lt_of_le h.lf hB,lp:=Nat.lt_of_lt_of_le h.lp hB}
end
structure PlSz (K:Nat) (x:Plan):Prop where
 n:∀i,(Qa (x.n.getD i 0)).length<=K
 m:∀i,(Qa (x.m.getD i 0)).length<=K
 f:∀i,(Qa (x.f.getD i 0)).length<=K
 p:∀i,(Qa (x.p.getD i 0)).length<=K
def Xc(v:PlV):Array Value:=#[.string ⟨v.m.cause.toArray⟩,.int .i64 v.m.day,.string ⟨v.m.inst.toArray⟩,.string ⟨v.m.other.toArray⟩,.string ⟨v.m.ratio.n.toArray⟩,.string ⟨v.m.ratio.d.toArray⟩,.string ⟨v.m.share.n.toArray⟩,.string ⟨v.m.share.d.toArray⟩,.string ⟨v.m.price.n.toArray⟩,.string ⟨v.m.price.d.toArray⟩,.bool v.m.keep,.slice v.oA v.on v.oc,.string ⟨v.parts.toArray⟩,.string ⟨v.part.n.toArray⟩,.string ⟨v.part.d.toArray⟩,v.n,v.q,v.f,v.p]
theorem YA(v:PlV):(plA v).toArray=Xc v:=rfl
def Zb8(v:Value):Sem Value:=Instr.loadAt 60 v
theorem VT(v:Value):Instr.loadAt 60 v=Zb8 v:=rfl
theorem XZ{w:World}{g:Nat}{pb:Array Value}(hg:BlkB w g pb 60)(hs:pb.size=19):(Zb8 (.pointer (some ⟨g,0,none⟩))).run Tryz.prog w=.ok (.agg pb) w:=by
 have e:=run_loadVar_row (P:=Tryz.prog) w g 60 60 pb (0,0) _ hg Tryz.underlying60 rfl (by rw[hs];kernel_rfl);unfold Zb8;simp only[Instr.loadAt,Instr.sureAddr,Sem.run_bind,Sem.run_pure,Result.andThen_ok,e]
theorem Zdj(v:PlV)(x:Plan)(old:List Lot)(pn pm pf pp i:Nat)(w:World)(hp:Env w)(h:PlM w w.1.size v x old pn pm pf pp)(hz:PlSz 50000 x)(hi:i<old.length)(_hn:old.length<=1000000):
 Calls Tryz.prog 78 #[.agg (plA v).toArray,.int .i64 i] w fun e w'=>e=.returned (S (Qa (x.mv i)))/\Below w.1.size w w':=by
 have HSU:=jq (fun W hp=>Zbj (Qa (x.m.getD i 0)) (Qa (x.f.getD i 0)) W hp (by have:=hz.m i;omega) (by have:=hz.f i;omega));rw[Qc,Qc,show x.m.getD i 0-x.f.getD i 0=x.mv i from rfl] at HSU;have H:=jq ((Kp.start hp).new w.1.size rfl (Xc v) 60);have hlen:=h.len
 have PM:=jq (show ∀W,Below w.1.size w W->W.cell? ⟨pm,i,none⟩=some (.string ⟨(Qa (x.m.getD i 0)).toArray⟩)/\W.cell? ⟨pf,i,none⟩=some (.string ⟨(Qa (x.f.getD i 0)).toArray⟩) from fun W hb=>
  ⟨(h.below hb).bm.cell i (by rw[QQ _ _ _ _ (by omega),if_pos (by omega)]),(h.below hb).bf.cell i (by rw[QQ _ _ _ _ (by omega),if_pos (by omega)])⟩)
 have e16:(Xc v)[16]?=some (.slice (some ⟨pm,0,none⟩) v.on v.on):=by rw[<-h.em];rfl
 have e17:(Xc v)[17]?=some (.slice (some ⟨pf,0,none⟩) v.on v.on):=by rw[<-h.ef];rfl
 have HX:=jq (show ∀W,Kp w [(w.1.size,Xc v,60)] W->W.cell? ⟨w.1.size,16,none⟩=some (.slice (some ⟨pm,0,none⟩) v.on v.on)/\W.cell? ⟨w.1.size,17,none⟩=some (.slice (some ⟨pf,0,none⟩) v.on v.on)/\W.cell? ⟨pm,i,none⟩=some (.string ⟨(Qa (x.m.getD i 0)).toArray⟩)/\W.cell? ⟨pf,i,none⟩=some (.string ⟨(Qa (x.f.getD i 0)).toArray⟩) from
  fun W hW=>⟨hW.c 0 16 rfl e16,hW.c 0 17 rfl e17,(PM.out W hW.bl).1,(PM.out W hW.bl).2⟩)
 rw[YA];generalize Xc v=pb at*;obtain⟨n,hn'⟩:∃n,n=v.on:=⟨_,rfl⟩
 rw[<-hn'] at HX hlen;have i1:(0:Int)<=(i:Int):=by omega
 have i2:(i:Int)<(n:Int):=by omega
 generalize Qa (x.mv i)=res at*;generalize Qa (x.m.getD i 0)=tm at*;generalize Qa (x.f.getD i 0)=tf at*;clear hp h hz hi _hn PM e16 e17 hn' hlen;unfold S at*
 obtain⟨y0,y1,y2,y3⟩:=HX.out _ H.out
 go_enter Tryz.func78,Tryz.ntmps78
 go_upto_region 1 with (fail)
 generalize w.alloc (.cells pb 60)=W at*
 go_region_held3 (fun w'=>w'.cell? ⟨w.1.size,16,none⟩=some (.slice (some ⟨pm,0,none⟩) n n)/\w'.cell? ⟨w.1.size,17,none⟩=some (.slice (some ⟨pf,0,none⟩) n n)/\w'.cell? ⟨pm,i,none⟩=some (.string ⟨tm.toArray⟩)/\w'.cell? ⟨pf,i,none⟩=some (.string ⟨tf.toArray⟩))
  (first
    |exact k2
    |go_keep)
  (first
    |(go_at_call 67;refine(HSU.out _ H.out.drew.po).mono ?_;rintro e w2 ⟨rfl,hb2⟩;unfold S;have hz:Below W.1.size W w2:=(Below.refl _ W).drew.trans hb2;have k2:=HX.out _ (H.out.here hz)))
 all_goals
  go_wp2_with fail
  first|go_ret|skip
  exact⟨rfl,(H.out.here hz).bl⟩
theorem Zet(k:Nat)(hk:1<=k):Zbu (Qa (k:Int))=QN k:=by rw[Zde,if_neg (by omega)]
theorem Zif(v:PlV)(k:Nat)(w:World)(hp:Env w)(hk:1<=k)(hk2:k<=1000000)(hc:v.m.cause.length<=50000):
 Calls Tryz.prog 79 #[.agg (plA v).toArray,.int .i64 k] w fun e w'=>e=.returned (S (QO v.m.cause k))/\Below w.1.size w w':=by
 have H:=jq ((Kp.start hp).new w.1.size rfl (Xc v) 60);have HOF:=jq (fun W hp=>ZmQ (k:Int) (by omega) (by omega) W hp);rw[Zlw k,<-XU k] at HOF;have hl:(Qa (k:Int)).length<=8:=Qd (n:=(k:Int)) (L:=7) (by simp;omega);have HPR:=jq (Zeq (Qa (k:Int)) (by omega));rw[Zet k hk] at HPR;have HDL:=jq (show(QN k).length<=8 by rw[<-XU k];exact hl);have HID:=jq (show QO v.m.cause k=v.m.cause++47::QN k from rfl);have HX:=jq (show ∀W,Kp w [(w.1.size,Xc v,60)] W->W.cell? ⟨w.1.size,0,none⟩=some (.string ⟨v.m.cause.toArray⟩) from fun W hW=>hW.c 0 0 rfl rfl);rw[YA];generalize Xc v=pb at*;generalize QO v.m.cause k=res at*;generalize v.m.cause=cs at*;generalize Qa (k:Int)=tk at*;generalize QN k=dk at*;have hdl:dk.length<=8:=by have:=HDL.out;omega
 have hs1:∀w,(Op.stringOp .add ⟨cs.toArray⟩ ⟨#[47]⟩).run Tryz.prog w=.ok (.string ⟨(cs++[47]).toArray⟩) w:=fun w=>run_string_add_lists w cs [47] (by omega) (by simp)
 have hs2:∀w,(Op.stringOp .add ⟨(cs++[47]).toArray⟩ ⟨dk.toArray⟩).run Tryz.prog w=.ok (.string ⟨((cs++[47])++dk).toArray⟩) w:=fun w=>run_string_add_lists w (cs++[47]) dk (by simp;omega) (by omega)
 have HR:=jq (show(cs++[47])++dk=res by rw[HID.out];simp);clear hp hk hk2 hl hc hdl HID HDL;rw[HR.out] at hs2;generalize cs++[47]=cs2 at*;unfold S at*
 have y0:=HX.out _ H.out;go_enter Tryz.func79,Tryz.ntmps79
 go_upto_region 1 with (fail)
 generalize w.alloc (.cells pb 60)=W at*
 go_region_held3 (fun w'=>w'.cell? ⟨w.1.size,0,none⟩=some (.string ⟨cs.toArray⟩))
  (first
    |exact k2
    |exact k3
    |go_keep)
  (first
    |(go_at_call 130;refine(HOF.out _ H.out.drew.po).mono ?_;rintro e w2 ⟨rfl,hb2⟩;(try unfold S);have hz:Below W.1.size W w2:=(Below.refl _ W).drew.trans hb2;have k2:=HX.out _ (H.out.here hz))
    |(go_at_call 129;refine(HPR.out _ (H.out.here hz).pw).mono ?_;rintro e w3 ⟨rfl,hb3⟩;have hz2:Below W.1.size W w3:=hz.trans (hb3.mono hz.size);have k3:=HX.out _ (H.out.here hz2)))
 all_goals
  go_wp2_with fail
  first|go_ret|skip
  exact⟨rfl,(H.out.here hz2).bl⟩
end
section
def Zl8(v u:Value):Sem Unit:=Instr.storeAt 60 v u
theorem ZcW(v u:Value):Instr.storeAt 60 v u=Zl8 v u:=rfl
theorem ZmZ:(Tryz.prog.info? 60).map (·.size)=some 19:=by kernel_rfl
theorem ZdC{w:World}{g:Nat}{pb cs:Array Value}(hg:BlkB w g pb 60)(hs:pb.size=19)(hc:cs.size=19)(h1:cs.all (·.oneCell')=true):(Zl8 (.pointer (some ⟨g,0,none⟩)) (.agg cs)).run Tryz.prog w=.ok () (w.setRow g cs):=by
 have e:=run_storeVar_row (P:=Tryz.prog) w g 60 60 pb cs hg (by rw[ZmZ,hc]) (by omega) h1;unfold Zl8;simp only[Instr.storeAt,Instr.sureAddr,Sem.run_bind,Sem.run_pure,Result.andThen_ok,e]
section
variable {w W:World} {g p:Nat} {pb cs ds:Array Value} {T U:TypeId}
theorem BlkB.row(h:BlkB w g pb T)(cs:Array Value):BlkB (w.setRow g cs) g cs T:=setRow_heap w g pb cs T (0,0) h
theorem BlkB.farRow(h:BlkB w p ds U)(hp:p≠g)(cs:Array Value):BlkB (w.setRow g cs) p ds U:=(setRow_other w g p cs hp).trans h
theorem Zci(v:PlV)(hn:v.n.oneCell'=true)(hq:v.q.oneCell'=true)(hf:v.f.oneCell'=true)(hp:v.p.oneCell'=true):(Xc v).all (·.oneCell')=true:=by
 have h:∀s:ByteArray,(Value.string s).oneCell'=true:=fun _=>rfl
 unfold Xc;simp only[List.all_toArray,List.all_cons,List.all_nil,hn,hq,hf,hp,h,Bool.and_true];rfl
end
theorem Vd:Ji Tryz.prog 58 24 1 16:=Vv Tryz.underlying58 (by kernel_rfl) (by decide) (by decide)
theorem ZcC{W:World}{q:Nat}{s:List UInt8}{T:TypeId}(h:BlkB W q #[.string ⟨s.toArray⟩] T):XA W W.1.size (some ⟨q,0,none⟩) 1 [s]:=by
 refine⟨rfl,fun _=>⟨q,0,rfl,h.lt,fun j z hj k u hk=> ?_⟩⟩
 cases j with
 |zero=>
  simp only[List.getElem?_cons_zero,Option.some.injEq] at hj;subst hj;rw[Nat.zero_mul,Nat.zero_add];exact h.cell k (by simpa[S1,S] using hk)
 |succ j=>simp at hj
theorem Zav{α:Type}{enc:α->List Value}{k base n c:Nat}{e:TypeId}{W:World}{A:Option Addr}{xs:List α}{g:Nat}(h:Own enc k e W base (.slice A n c) xs)(hg:(Value.slice A n c).ownBlock=some g):base<=g/\g<W.1.size:=by
 obtain⟨A',c',hv,_,_,_,h5⟩:=h.form
 exact(h5 g hg).2
structure TwoO (base:Nat) (W1 X:World) (A1:Option Addr) (n1 c1:Nat) (xs:List (List UInt8)) (A2:Option Addr) (n2 c2:Nat) (ys:List (List UInt8)):Prop where
 o1:Own S1 1 24 X base (.slice A1 n1 c1) xs
 o2:Own S1 1 24 X base (.slice A2 n2 c2) ys
 ap:∀g,(Value.slice A1 n1 c1).ownBlock=some g->(Value.slice A2 n2 c2).ownBlock≠some g
 bl:Below base W1 X
 hb:base<=X.1.size
section
variable {base:Nat} {W1 X Y:World} {A1 A2 A3:Option Addr} {n1 c1 n2 c2 n3 c3:Nat} {xs ys zs:List (List UInt8)}
theorem TwoO.nil(hb:base<=X.1.size)(hl:Below base W1 X):TwoO base W1 X none 0 0 [] none 0 0 []:=⟨Own.nil,Own.nil,fun g h=>by simp[Value.ownBlock] at h,hl,hb⟩
theorem TwoO.alloc(h:TwoO base W1 X A1 n1 c1 xs A2 n2 c2 ys)(o:Obj):TwoO base W1 (X.alloc o) A1 n1 c1 xs A2 n2 c2 ys:=⟨h.o1.alloc o,h.o2.alloc o,h.ap,h.bl.alloc h.hb o,by have:=h.hb;simp;omega⟩
theorem TwoO.drew(h:TwoO base W1 X A1 n1 c1 xs A2 n2 c2 ys):TwoO base W1 X.drew A1 n1 c1 xs A2 n2 c2 ys:=⟨h.o1,h.o2,h.ap,h.bl.drew,h.hb⟩
theorem TwoO.below(h:TwoO base W1 X A1 n1 c1 xs A2 n2 c2 ys)(hb:Below X.1.size X Y):TwoO base W1 Y A1 n1 c1 xs A2 n2 c2 ys:=⟨h.o1.below hb,h.o2.below hb,h.ap,h.bl.trans (hb.mono h.hb),Nat.le_trans h.hb hb.size⟩
theorem TwoO.app1(h:TwoO base W1 X A1 n1 c1 xs A2 n2 c2 ys)(ho:Own S1 1 24 Y base (.slice A3 n3 c3) zs)(hg:X.grownBy Y (Value.slice A1 n1 c1).ownBlock)(hat:A3.map Addr.block=(Value.slice A1 n1 c1).ownBlock\/A3.map Addr.block=some X.1.size):TwoO base W1 Y A3 n3 c3 zs A2 n2 c2 ys:=by
 refine⟨ho,h.o2.grown hg ?_,?_,Qm h.bl hg h.hb (fun g e=>(Zav h.o1 e).1),Nat.le_trans h.hb hg.size⟩
 ·cases e:(Value.slice A2 n2 c2).ownBlock with
  |none=>exact .inl rfl
  |some g=>exact .inr fun e'=>h.ap g e'.symm e
 ·intro g e e2
  have e3:A3.map Addr.block=some g:=by cases A3 with|none=>simp[Value.ownBlock] at e|some ad=>simpa[Value.ownBlock] using e
  rcases hat with hat|hat
  ·rw[e3] at hat;exact h.ap g hat.symm e2
  ·rw[e3] at hat;injection hat with hat;have:=(Zav h.o2 e2).2;omega
theorem TwoO.app2(h:TwoO base W1 X A1 n1 c1 xs A2 n2 c2 ys)(ho:Own S1 1 24 Y base (.slice A3 n3 c3) zs)(hg:X.grownBy Y (Value.slice A2 n2 c2).ownBlock)(hat:A3.map Addr.block=(Value.slice A2 n2 c2).ownBlock\/A3.map Addr.block=some X.1.size):TwoO base W1 Y A1 n1 c1 xs A3 n3 c3 zs:=by
 refine⟨h.o1.grown hg ?_,ho,?_,Qm h.bl hg h.hb (fun g e=>(Zav h.o2 e).1),Nat.le_trans h.hb hg.size⟩
 ·cases e:(Value.slice A1 n1 c1).ownBlock with
  |none=>exact .inl rfl
  |some g=>exact .inr fun e'=>h.ap g e e'.symm
 ·intro g e e2
  have e3:A3.map Addr.block=some g:=by cases A3 with|none=>simp[Value.ownBlock] at e2|some ad=>simpa[Value.ownBlock] using e2
  rcases hat with hat|hat
  ·rw[e3] at hat;exact h.ap g e hat.symm
  ·rw[e3] at hat;injection hat with hat;have:=(Zav h.o1 e).2;omega
end
end
section
theorem Zmp{W:World}{base g:Nat}{u:Value}{xs:List Fr}(h:Own F2 2 26 W base u xs)(hg:u.ownBlock=some g):base<=g:=by
 obtain⟨A,c,rfl,h1,h2,h3,h4⟩:=h.form
 exact(h4 g hg).2.1
theorem Zmq(x:Fr):∀u∈F2 x,u.oneCell'=true:=by simp[F2,S,Value.oneCell']
theorem Zmr:Ji Tryz.prog 92 26 2 32:=Vv Tryz.underlying92 (by kernel_rfl) (by decide) (by decide)
theorem ZnT{W:World}{q:Nat}{f:Fr}{T:TypeId}(h:BlkB W q #[.string ⟨f.n.toArray⟩,.string ⟨f.d.toArray⟩] T):Frs W W.1.size (some ⟨q,0,none⟩) 1 [f]:=by
 refine⟨rfl,fun _=>⟨q,0,rfl,h.lt,fun j z hj k u hk=> ?_⟩⟩
 cases j with
 |zero=>
  simp only[List.getElem?_cons_zero,Option.some.injEq] at hj;subst hj;rw[Nat.zero_mul,Nat.zero_add];exact h.cell k (by simpa[F2,S] using hk)
 |succ j=>simp at hj
def idl(t:List UInt8)(ws:List (List UInt8)):List Fr:=ws.map fun x=>Qf (Rat.divInt (val t*val x) (Qw ws))
def Zfm(t:List UInt8)(ws:List (List UInt8))(n:Nat)(w:World)(e:Ending)(w':World):Prop:=
 ∃A' c',e=.returned (.tuple #[.slice A' n c',.int .i64 0])/\Own F2 2 26 w' w.1.size (.slice A' n c') (idl t ws)/\Below w.1.size w w'
end
end Go.Proofs.YtpnncoinlopndaaGreatDoor
