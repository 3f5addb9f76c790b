/- Pm. -/
import Derived.Test.YtokjnjdbnabchaaGreatDoorQGEp38
import Derived.DeepKeys4
set_option maxRecDepth 4000
namespace Go.Proofs.YtokjnjdbnabchaaGreatDoor
section
open Go.RowKit Go.Shelf
def pv(x:List UInt8×List UInt8):Value:=.agg #[.string ⟨x.1.toArray⟩,.string ⟨x.2.toArray⟩]
def kp(x:List UInt8×List UInt8):Lit:=.string (keyBytes [.string x.1,.string x.2])
theorem Zev:laidOutB Tryz.prog=true:=by kernel_rfl
theorem Xl:Maps.Keyed Tryz.prog 122:=
 Maps.Keyed.of_law (deep_law_laid Zev (m:=3) (by omega) (of_decide_eq_true (by kernel_rfl)) (by kernel_rfl) (by kernel_rfl))
theorem ZaY:∃m,Tryz.prog.types.size=m+1:=⟨Tryz.prog.types.size-1,by kernel_rfl⟩
theorem JX:Tryz.prog.cellsOf 122=2/\Tryz.prog.cellsOf 9=1/\Tryz.prog.keyType 122=true:=⟨by kernel_rfl,by kernel_rfl,by kernel_rfl⟩
def JY(x:List UInt8×List UInt8):Prop:=x.1.length<=maxLen/\x.2.length<=maxLen
theorem YS{x:List UInt8×List UInt8}(h:JY x):keyOf Tryz.prog 122 (pv x)=some (kp x):=by
 obtain⟨m,hm⟩:=ZaY
 obtain⟨hc1,hc2,hkt⟩:=JX
 have ha2:(⟨x.1.toArray⟩:ByteArray).size<=maxLen:=h.1;have hb2:(⟨x.2.toArray⟩:ByteArray).size<=maxLen:=h.2;unfold keyOf pv kp;simp only[Tryz.underlying122,hkt,Value.formed,hc1,Value.cells,hm];unfold Program.keyLits;simp[Tryz.underlying122,hc1,hc2,Program.keyLits,Tryz.underlying9,ha2,hb2,List.mapM_cons]
theorem Zcq{m:Nat}{x:Value}{l:List Lit}(h:Tryz.prog.keyLits (m+1) 9 [x]=some l):∃s:ByteArray,x=.string s/\s.size<=maxLen/\l=[.string s.data.toList]:=by
 unfold Program.keyLits at h;rw[Tryz.underlying9] at h
 cases x<;>simp at h
 exact⟨_,rfl,h.1,h.2.symm⟩
theorem ZfD{key:Value}{kl:Lit}(h:keyOf Tryz.prog 122 key=some kl):∃x,key=pv x/\JY x/\kl=kp x:=by
 obtain⟨m,hm⟩:=ZaY
 obtain⟨hc1,hc2,hkt⟩:=JX
 unfold keyOf at h;simp only[Tryz.underlying122,hkt,Bool.true_and] at h
 split at h
 ·rename_i hf
  cases key<;>simp[Value.formed,Tryz.underlying122,hc1] at hf
  rename_i cs
  obtain⟨x,y,rfl⟩:∃x y,cs=#[x,y]:=by
   obtain⟨l⟩:=cs
   match l,hf with
   |[x,y],_=>exact⟨x,y,rfl⟩
  simp only[hm,Value.cells] at h;unfold Program.keyLits at h
  cases h1:Tryz.prog.keyLits (m+1) 9 [x] with
  |none=>simp[Tryz.underlying122,hc1,hc2,List.mapM_cons,h1] at h
  |some l1=>
   cases h2:Tryz.prog.keyLits (m+1) 9 [y] with
   |none=>simp[Tryz.underlying122,hc1,hc2,List.mapM_cons,h1,h2] at h
   |some l2=>
    obtain⟨s,rfl,hs,rfl⟩:=Zcq h1
    obtain⟨u,rfl,hu,rfl⟩:=Zcq h2
    simp[Tryz.underlying122,hc1,hc2,List.mapM_cons,h1,h2] at h
    exact⟨(s.data.toList,u.data.toList),rfl,⟨hs,hu⟩,h.symm⟩
 ·cases h
theorem ZfE{x y:List UInt8×List UInt8}(hx:JY x)(hy:JY y)(h:kp x=kp y):x=y:=by
 have h1:=Xl.inj (YS hx) (h▸YS hy);unfold pv at h1;obtain⟨a,b⟩:=x
 obtain⟨c,d⟩:=y
 simp at h1;rw[h1.1,h1.2]
theorem Zdl(x:List UInt8×List UInt8):WideAt.IsKeyLit (kp x):=trivial
def ZiM(D:DataW Value)(m:List UInt8×List UInt8->Option Value):Prop:=Maps.IsMap D/\∀x,JY x->Maps.has D (kp x)=(m x).isSome/\∀z,D.atKey (kp x) z=(match m x with|some v=>.held v|none=>z)
def PmB(w:World)(b n:Nat)(m:List UInt8×List UInt8->Option Value):Prop:=∃D,w.ownsMap Tryz.prog 122 ZaD b n D/\ZiM D m
theorem ZdT(w:World):PmB (w.alloc (.map #[] 0)) w.1.size 0 (fun _=>none):=
 ⟨.map [],World.ownsMap_made _ _ _ _,⟨[],rfl⟩,fun _k _=>⟨rfl,fun _z=>rfl⟩⟩
section
variable {w w':World} {b n:Nat} {m:List UInt8×List UInt8->Option Value} {t e:TypeId} {x:List UInt8×List UInt8}
theorem PmB.lt(h:PmB w b n m):b<w.1.size:=h.elim fun _ h=>h.1.lt
theorem PmB.here(h:PmB w b n m)(hb:Below w.1.size w w'):PmB w' b n m:=by
 obtain⟨D,⟨es,clock,h1,h2⟩,h3⟩:=h
 exact⟨D,⟨es,clock,(hb.block b (Array.getElem?_eq_some_iff.1 h1).1).trans h1,h2⟩,h3⟩
theorem PmB.grown{row:Option Nat}(h:PmB w b n m)(hg:w.grownBy w' row)(hne:some b≠row):PmB w' b n m:=by
 obtain⟨D,h1,h3⟩:=h
 exact⟨D,h1.kept hg hne,h3⟩
theorem PmB.alloc(h:PmB w b n m)(o:Obj):PmB (w.alloc o) b n m:=h.here ((Below.refl _ _).alloc (Nat.le_refl _) o)
theorem PmB.drew(h:PmB w b n m):PmB w.drew b n m:=h
theorem PmB.far(h:PmB w b n m){a:Addr}(hb:b≠a.block)(u:Value):PmB (w.setCell a u) b n m:=by
 obtain⟨D,⟨es,clock,h1,h2⟩,h3⟩:=h
 exact⟨D,⟨es,clock,(Below.heap_setCell w a u b hb).trans h1,h2⟩,h3⟩
theorem PmB.more{n':Nat}(h:PmB w b n m)(hn:n<=n'):PmB w b n' m:=by
 obtain⟨D,⟨es,clock,h1,h2,h3,h4⟩,h5⟩:=h
 exact⟨D,⟨es,clock,h1,h2,Nat.le_trans h3 hn,h4⟩,h5⟩
theorem PmB.look(h:PmB w b n m)(ht:Tryz.prog.underlying t=some (.map 122 e)){z:Value}(hz:(zeroValue e).run Tryz.prog w=.ok z w)(h1:JY x):
 (Instr.lookup t (.map (some b)) (pv x) false).run Tryz.prog w=.ok ((m x).getD z) w:=by
 obtain⟨D,ho,hm,hd⟩:=h
 obtain⟨v,ps,hr,hv⟩:=ho.lookup Xl ht hz (zd:=.held z) (zp:=[]) rfl (key:=pv x) (kl:=kp x) (YS h1)
 rw[hr];rw[(hd x h1).2] at hv;unfold ZaD at hv
 cases hk:m x<;>rw[hk] at hv<;>simp at hv<;>rw[hv.1]<;>rfl
theorem PmB.lookOk(h:PmB w b n m)(ht:Tryz.prog.underlying t=some (.map 122 e)){z:Value}(hz:(zeroValue e).run Tryz.prog w=.ok z w)(h1:JY x):
 (Instr.lookup t (.map (some b)) (pv x) true).run Tryz.prog w=.ok (.tuple #[(m x).getD z,.bool (m x).isSome]) w:=by
 obtain⟨D,ho,hm,hd⟩:=h
 obtain⟨v,ps,hr,hv⟩:=ho.look_ok Xl ht hz (zd:=.held z) (zp:=[]) rfl (key:=pv x) (kl:=kp x) (YS h1)
 rw[hr,(hd x h1).1];rw[(hd x h1).2] at hv;unfold ZaD at hv
 cases hk:m x<;>rw[hk] at hv<;>simp at hv<;>rw[hv.1]<;>rfl
theorem PmB.put(h:PmB w b n m)(ht:Tryz.prog.underlying t=some (.map 122 e))(hn:n<maxLen)(h1:JY x)(v:Value):
 ∃w',(Instr.mapUpdate t (.map (some b)) (pv x) v).run Tryz.prog w=.ok () w'/\PmB w' b (n+1) (fun j=>if j=x then some v else m j)/\w.grownBy w' (some b):=by
 obtain⟨D,ho,hm,hd⟩:=h
 obtain⟨w',hr,ho',hg⟩:=ho.update Xl ht hn (key:=pv x) (kl:=kp x) (YS h1) (val:=v) (d:=.held v) (ps:=[]) rfl
 refine⟨w',hr,⟨_,ho',hm.put _ _,fun j hj=> ?_⟩,hg⟩
 by_cases ej:j=x
 ·subst ej;refine⟨by rw[Maps.has_put_same hm (Zdl j)];simp,fun z=> ?_⟩;rw[Maps.atKey_put_same hm (Zdl j)];simp
 ·have hne:kp j≠kp x:=fun h=>ej (ZfE hj h1 h)
  refine⟨by rw[Maps.has_put_other hne];simp[ej,(hd j hj).1],fun z=> ?_⟩;rw[Maps.atKey_put_other hne,(hd j hj).2];simp[ej]
end
def PmR(w:World)(b r n:Nat)(m:List UInt8×List UInt8->Option Value)(rem:List UInt8×List UInt8->Bool)(cnt:Nat):Prop:=
 ∃D left,w.ranges Tryz.prog 122 ZaD b r n D left cnt/\ZiM D m/\∀x,JY x->left (kp x)=rem x
section
variable {w w':World} {b r n cnt:Nat} {m:List UInt8×List UInt8->Option Value} {rem:List UInt8×List UInt8->Bool} {t e:TypeId}
theorem PmR.map(h:PmR w b r n m rem cnt):PmB w b n m:=by
 obtain⟨D,left,h1,h2,_⟩:=h
 exact⟨D,h1.owns,h2⟩
theorem PmR.grown{row:Option Nat}(h:PmR w b r n m rem cnt)(hg:w.grownBy w' row)(h1:some b≠row)(h2:some r≠row):PmR w' b r n m rem cnt:=by
 obtain⟨D,left,h3,h4,h5⟩:=h
 exact⟨D,left,h3.kept hg h1 h2,h4,h5⟩
theorem PmR.here_(h:PmR w b r n m rem cnt)(hb:Below w.1.size w w'):PmR w' b r n m rem cnt:=h.grown (row:=none) ⟨hb.os,hb.tape,hb.output,hb.size,fun k hk _=>hb.block k hk⟩ (by simp) (by simp)
theorem PmR.ne(h:PmR w b r n m rem cnt):r≠b:=h.elim fun _ ⟨_,h,_⟩=>h.ne
theorem PmR.lt(h:PmR w b r n m rem cnt):r<w.1.size:=h.elim fun _ ⟨_,h,_⟩=>h.lt
theorem PmR.left(h:PmR w b r n m rem cnt):w.rangeLeft b r=cnt:=h.elim fun _ ⟨_,h,_⟩=>h.left_eq
variable {ops:Array Oper} {rest:List Oper} {o:Oper} {a:Act} {Q:Exit->Act->World->Prop}
theorem Yq(hg:o.guard=none)(mo:Operand)(hop:o.op=Op.range t mo)(ht:Tryz.prog.underlying t=some (.map 122 e))(hm:a.eval mo=.map (some b))(h:PmB w b n m)
 (hK:∀w' cnt,PmR w' b w.1.size n m (fun x=>(m x).isSome) cnt->cnt<=n->w.grownBy w' none->w'.1.size=w.1.size+1->wpList Tryz.prog ops Q rest (a.put o.dst (.pointer (some ⟨w.1.size,0,none⟩))) w'):wpList Tryz.prog ops Q (o::rest) a w:=by
 obtain⟨D,ho,hd⟩:=h
 refine wpList_range_own w hg mo t hop 122 e Xl ht ZaD b n D hm ho fun w' h1 h2 h3=>hK w' _ ⟨D,_,h1,hd,fun x hx=>(hd.2 x hx).1⟩ ?_ h2 h3
 obtain⟨es,clock,_,_,h5,rfl⟩:=ho
 simp only[Maps.size,List.length_map,length_sorted];simpa using h5
theorem YF(hg:o.guard=none)(it:Operand)(hop:o.op=Op.next it false)(hit:a.eval it=.pointer (some ⟨r,0,none⟩))(h:PmR w b r n m rem cnt)
 (hDone:(∀x,JY x->rem x=false)->wpList Tryz.prog ops Q rest (a.put o.dst (.tuple #[.bool false])) w)
 (hMore:∀x v w' cnt',JY x->rem x=true->m x=some v->PmR w' b r n m (fun y=>rem y&& !decide (y=x)) cnt'->cnt'<cnt->w.grownBy w' (some r)->w'.1.size=w.1.size->
   (Instr.entry (.pointer (some ⟨r,0,none⟩))).run Tryz.prog w'=.ok (.tuple #[pv x,v]) w'->wpList Tryz.prog ops Q rest (a.put o.dst (.tuple #[.bool true,pv x,v])) w'):wpList Tryz.prog ops Q (o::rest) a w:=by
 obtain⟨D,left,h1,h2,h3⟩:=h
 refine wpList_next_ranges w hg it hop 122 Xl ZaD (fun x:{x//JY x}=>pv x.1) id (fun key kl hk=> ?_) (fun v y _=>⟨v,rfl⟩) b r n D left cnt hit h1 (fun _ hl=>hDone fun x hx=>by rw[<-h3 x hx];exact hl _) ?_
 ·obtain⟨x,rfl,hx,_⟩:=ZfD hk
  exact⟨⟨x,hx⟩,rfl⟩
 ·rintro⟨x,hx⟩ v kl y w' cnt' hk hl hv hat hr hlt hgr hsz hen
  dsimp only[id] at hk hv hen ⊢
  obtain rfl:kl=kp x:=Option.some.inj (hk.symm.trans (YS hx))
  have hy:y.1=.held v:=by
   unfold ZaD at hv;rw[<-Option.some.inj hv]
  have hmx:m x=some v:=by
   have h4:=(h2.2 x hx).2
   cases hm:m x with
   |none=>
    have h5:=h4 (.held (.bool true));have h6:=h4 (.held (.bool false));rw[hm] at h5 h6;rw[hat] at h5 h6;rw[h5] at h6;simp at h6
   |some u=>
    have h5:=h4 .nil;rw[hm,hat,hy] at h5;simp at h5;rw[h5]
  refine hMore x v w' cnt' hx (by rw[<-h3 x hx];exact hl) hmx ⟨D,_,hr,h2,fun z hz=> ?_⟩ hlt hgr hsz hen
  show(left (kp z)&& !(kp z).sameKey (kp x))=_
  rw[h3 z hz]
  by_cases e:z=x
  ·subst e;rw[WideAt.sameKey_self (Zdl z)];simp
  ·have:(kp z).sameKey (kp x)=false:=by
    cases hs:(kp z).sameKey (kp x) with
    |false=>rfl
    |true=>exact absurd (ZfE hz hx (WideAt.sameKey_eq hs)) e
   rw[this];simp[e]
end
end
end Go.Proofs.YtokjnjdbnabchaaGreatDoor
