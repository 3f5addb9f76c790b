/- M1, FR, Lp0, D0, A0, W0, Dv, Lp1, Lp2, Lp3, Lt0, Fk0, Vw0, Vaq. -/
import Derived.Test.YtbcnkcldlealjaaGreatDoorQGVb31
import Derived.Lib.AtoiAllCases
import Derived.Lib.IndexLaws
namespace Go.Proofs.YtbcnkcldlealjaaGreatDoor
section
open Go.RowKit Go.Shelf
def gv:List Nat->Nat
 |[]=>0
 |x::xs=>x+1000000000*gv xs
def Gs(xs:List Nat):Prop:=∀x∈xs,x<1000000000
def Nz(xs:List Nat):Prop:=xs.getLast?≠some 0
structure Mag (xs:List Nat) (v:Nat):Prop where
 gs:Gs xs
 nz:Nz xs
 val:gv xs=v
theorem YG(xs ys:List Nat):gv (xs++ys)=gv xs+1000000000^xs.length*gv ys:=by
 induction xs with
 |nil=>simp[gv]
 |cons x xs ih=>
  rw[List.cons_append,gv,ih,gv,List.length_cons,Nat.pow_succ,Nat.mul_add,Nat.add_assoc,<-Nat.mul_assoc,Nat.mul_comm (1000000000^xs.length) 1000000000]
theorem Yq(xs:List Nat)(g:Nat):gv (xs++[g])=gv xs+1000000000^xs.length*g:=by rw[YG];simp[gv]
theorem Gs.nil:Gs []:=fun x hx=>by cases hx
theorem Gs.snoc{xs:List Nat}{g:Nat}(h:Gs xs)(hg:g<1000000000):Gs (xs++[g]):=fun x hx=>by
 rcases List.mem_append.1 hx with h1|h1
 ·exact h x h1
 ·simp at h1;rw[h1];exact hg
theorem Gs.take{xs:List Nat}(h:Gs xs)(k:Nat):Gs (xs.take k):=fun x hx=>h x (List.mem_of_mem_take hx)
theorem Gs.at_{xs:List Nat}(h:Gs xs){i g:Nat}(hi:xs[i]?=some g):g<1000000000:=h g (List.mem_of_getElem? hi)
theorem Yr{xs:List Nat}(h:Gs xs):gv xs<1000000000^xs.length:=by
 induction xs with
 |nil=>simp[gv]
 |cons x xs ih=>
  have h1:=ih (fun y hy=>h y (by simp[hy]));have h2:=h x (by simp);rw[gv,List.length_cons,Nat.pow_succ];omega
theorem JI{xs:List Nat}(hn:xs≠[])(h:Nz xs):1000000000^(xs.length-1)<=gv xs:=by
 obtain⟨ys,g,rfl⟩:∃ys g,xs=ys++[g]:=⟨xs.dropLast,xs.getLast hn,(List.dropLast_concat_getLast hn).symm⟩
 have hg:g≠0:=fun e=>h (by rw[e];simp)
 rw[Yq,List.length_append,List.length_singleton,Nat.add_sub_cancel];exact Nat.le_trans (Nat.le_mul_of_pos_right _ (by omega)) (Nat.le_add_left _ _)
theorem Ys(xs:List Nat)(i:Nat)(g:Nat)(h:xs[i]?=some g):gv (xs.take (i+1))=gv (xs.take i)+1000000000^i*g:=by
 obtain⟨hi,rfl⟩:=List.getElem?_eq_some_iff.1 h
 rw[List.take_succ_eq_append_getElem hi,Yq,List.length_take,Nat.min_eq_left (by omega)]
theorem Xp(xs:List Nat)(i:Nat)(g:Nat)(h:xs[i]?=some g):gv (xs.drop i)=g+1000000000*gv (xs.drop (i+1)):=by
 obtain⟨hi,rfl⟩:=List.getElem?_eq_some_iff.1 h
 rw[List.drop_eq_getElem_cons hi,gv]
theorem XS(xs:List Nat)(i:Nat)(hi:i<=xs.length):gv xs=gv (xs.take i)+1000000000^i*gv (xs.drop i):=by
 have:=YG (xs.take i) (xs.drop i)
 rw[List.take_append_drop,List.length_take,Nat.min_eq_left hi] at this;exact this
theorem Mag.zero:Mag [] 0:=⟨Gs.nil,by unfold Nz;simp,rfl⟩
theorem Mag.nil_iff{xs:List Nat}{v:Nat}(h:Mag xs v):xs=[]↔v=0:=by
 constructor
 ·rintro rfl;exact h.val.symm
 ·intro hv
  by_cases hn:xs=[]
  ·exact hn
  ·have:=JI hn h.nz
   rw[h.val,hv] at this;have:=Nat.pow_pos (n:=xs.length-1) (show 0<1000000000 by decide)
   omega
theorem Mag.len{xs:List Nat}{v k:Nat}(h:Mag xs v)(hv:v<1000000000^k):xs.length<=k:=by
 by_cases hn:xs=[]
 ·rw[hn];simp
 ·have h1:=JI hn h.nz;rw[h.val] at h1;have h2:=Nat.lt_of_le_of_lt h1 hv;have:=(Nat.pow_lt_pow_iff_right (show 1<1000000000 by decide)).1 h2
  omega
theorem ZcU{α:Type}{P:List α->Prop}(h0:P [])(h1:∀l b,P l->P (l++[b]))(l:List α):P l:=by
 have:∀l:List α,P l.reverse:=by
  intro l
  induction l with
  |nil=>exact h0
  |cons a l ih=>rw[List.reverse_cons];exact h1 _ _ ih
 have h:=this l.reverse
 rwa [List.reverse_reverse] at h
def Qm(l:List UInt8):Nat:=l.foldl (fun n b=>10*n+(b.toNat-48)) 0
theorem VW(l:List UInt8)(n:Nat):l.foldl (fun n b=>10*n+(b.toNat-48)) n=n*10^l.length+Qm l:=by
 induction l generalizing n with
 |nil=>simp[Qm]
 |cons b l ih=>
  have e:Qm (b::l)=(10*0+(b.toNat-48))*10^l.length+Qm l:=by unfold Qm;rw[List.foldl_cons];exact ih _
  rw[List.foldl_cons,ih,e,List.length_cons,Nat.pow_succ,Nat.add_mul,Nat.mul_comm 10 n,Nat.mul_assoc,Nat.mul_comm 10 (10^l.length),Nat.mul_zero,Nat.zero_add,Nat.add_assoc]
theorem Vg(l l':List UInt8):Qm (l++l')=Qm l*10^l'.length+Qm l':=by
 unfold Qm;rw[List.foldl_append,VW];rfl
theorem JJ(l:List UInt8)(b:UInt8):Qm (l++[b])=10*Qm l+(b.toNat-48):=by
 rw[Vg,Nat.mul_comm];simp[Qm]
theorem XC(b:UInt8):QF b=true↔48<=b.toNat/\b.toNat<=57:=by
 unfold QF;simp[UInt8.le_iff_toNat_le]
theorem Jf{l:List UInt8}:l.all QF=true->Qm l<10^l.length:=by
 refine ZcU (P:=fun l=>l.all QF=true->Qm l<10^l.length) ?_ ?_ l
 ·intro _;simp[Qm]
 ·intro l b ih h;rw[List.all_append] at h;simp only[List.all_cons,List.all_nil,Bool.and_true,Bool.and_eq_true] at h;have h1:=ih h.1;have h2:=(XC b).1 h.2;rw[JJ,List.length_append,List.length_singleton,Nat.pow_succ];omega
theorem Zgm(b:UInt8)(h:QF b=true):UInt8.ofNat (48+(b.toNat-48))=b:=by
 have h2:=(XC b).1 h;rw[show 48+(b.toNat-48)=b.toNat by omega];simp
theorem VB{b:UInt8}{l:List UInt8}(h:(b::l).all QF=true)(hb:(b==48)=false):Qm (b::l)≠0:=by
 have h1:QF b=true:=by simp at h;exact h.1
 have h2:=(XC b).1 h1
 have h3:b.toNat≠48:=fun e=>by
  have:b=48:=UInt8.toNat_inj.1 e
  rw[this] at hb;simp at hb
 unfold Qm;rw[List.foldl_cons,VW];have:=Nat.pow_pos (n:=l.length) (show 0<10 by decide)
 have:0<(10*0+(b.toNat-48))*10^l.length:=Nat.mul_pos (by omega) this
 omega
theorem Zfh{l:List UInt8}:l.all QF=true->(∀b t,l=b::t->(b==48)=false)->QO (Qm l)=l:=by
 refine ZcU (P:=fun l=>l.all QF=true->(∀b t,l=b::t->(b==48)=false)->QO (Qm l)=l) ?_ ?_ l
 ·intro _ _;simp[Qm,QO]
 ·intro l b ih h hz;have h':=h;rw[List.all_append] at h;simp only[List.all_cons,List.all_nil,Bool.and_true,Bool.and_eq_true] at h;have h2:=(XC b).1 h.2
  have hne:Qm (l++[b])≠0:=by
   cases l with
   |nil=>exact VB h' (hz b [] rfl)
   |cons c t=>exact VB h' (hz c (t++[b]) rfl)
  rw[XB _ hne,JJ,show(10*Qm l+(b.toNat-48))/10=Qm l by omega,show(10*Qm l+(b.toNat-48))%10=b.toNat-48 by omega,Zgm b h.2,ih h.1 (fun c t e=>hz c (t++[b]) (by rw[e];rfl))]
theorem ZbP(m:Nat):Qm (QO m)=m:=by
 induction m using Nat.strongRecOn with
 |_ m ih=>
  by_cases h:m=0
  ·subst h;rfl
  ·rw[XB m h,JJ,ih (m/10) (by omega)];have:(UInt8.ofNat (48+m%10)).toNat=48+m%10:=by simp;omega
   omega
def val(a:List UInt8):Int:=if(Qp a).2 then-(Qm (Qp a).1:Int) else Qm (Qp a).1
theorem ZaA(a:List UInt8):(Qp a).1.all QF=true/\(∀b t,(Qp a).1=b::t->(b==48)=false)/\((Qp a).2=true->(Qp a).1≠[]):=by
 unfold Qp;simp only
 split
 ·rename_i h
  refine⟨?_,?_,?_⟩
  ·rw[List.all_eq_true] at h ⊢;exact fun x hx=>h x ((List.dropWhile_sublist _).subset hx)
  ·intro b t e;have e':(Lib.trimPrefix a [45]).dropWhile (·==48)=b::t:=e;clear e;have e:=e';have hne:(Lib.trimPrefix a [45]).dropWhile (·==48)≠[]:=by rw[e];simp
   have:=Ve (·==48) (Lib.trimPrefix a [45]) hne
   simp only[e,List.head_cons] at this;exact this
  ·intro hh;simp only[Bool.and_eq_true,Bool.not_eq_true'] at hh;intro e;have e':(Lib.trimPrefix a [45]).dropWhile (·==48)=[]:=e;rw[e'] at hh;simp at hh
 ·simp
theorem Zie(a:List UInt8):(Qp a).2=decide (val a<0):=by
 obtain⟨h1,h2,h3⟩:=ZaA a
 unfold val
 cases hn:(Qp a).2 with
 |false=>simp
 |true=>
  have hne:=h3 hn
  have hv:Qm (Qp a).1≠0:=by
   cases he:(Qp a).1 with
   |nil=>exact absurd he hne
   |cons b t=>rw[he] at h1;exact VB h1 (h2 b t he)
  simp;omega
theorem JK(n:Int):Qn n=(if n<0 then[45] else[])++QO n.natAbs:=by
 unfold Qn QO
 by_cases h:n=0
 ·subst h;rfl
 ·rw[if_neg h,if_neg (by omega:n.natAbs≠0)]
  split<;>rfl
def ZcV:Nat->Nat->List UInt8
 |0,_=>[]
 |k+1,g=>ZcV k (g/10)++[UInt8.ofNat (48+g%10)]
theorem Zgn(k:Nat):∀(x g:Nat),x≠0->g<10^k->QO (10^k*x+g)=QO x++ZcV k g:=by
 induction k with
 |zero=>intro x g hx hg;simp at hg;subst hg;simp[ZcV]
 |succ k ih=>
  intro x g hx hg;rw[Nat.pow_succ] at hg
  have e1:10^(k+1)*x+g=10*(10^k*x+g/10)+g%10:=by
   rw[Nat.pow_succ,Nat.mul_add,<-Nat.mul_assoc,Nat.mul_comm 10 (10^k)];omega
  have hne:10^(k+1)*x+g≠0:=by
   have:=Nat.mul_pos (Nat.pow_pos (n:=k+1) (show 0<10 by decide)) (Nat.pos_of_ne_zero hx)
   omega
  rw[XB _ hne,e1,show(10*(10^k*x+g/10)+g%10)/10=10^k*x+g/10 by omega,show(10*(10^k*x+g/10)+g%10)%10=g%10 by omega,ih x (g/10) hx (by omega),ZcV,List.append_assoc]
theorem ZeA(k:Nat):∀g:Nat,g<10^(k+1)->(Lib.decDigits g).length<=k+1/\List.replicate (k+1-(Lib.decDigits g).length) 48++Lib.decDigits g=ZcV (k+1) g:=by
 induction k with
 |zero=>
  intro g hg;rw[Lib.decDigits,dif_pos (by omega)];refine⟨by simp,?_⟩;simp only[ZcV,List.nil_append];rw[Nat.mod_eq_of_lt (by omega)];rfl
 |succ k ih=>
  intro g hg;rw[Nat.pow_succ] at hg
  by_cases h10:g<10
  ·rw[Lib.decDigits,dif_pos h10];refine⟨by simp,?_⟩;obtain⟨i1,i2⟩:=ih (g/10) (by omega)
   have e0:g/10=0:=by omega
   rw[e0,Lib.decDigits,dif_pos (by omega)] at i2;rw[ZcV,e0,<-i2,Nat.mod_eq_of_lt h10];simp only[List.length_cons,List.length_nil,Nat.zero_add,Nat.add_sub_cancel];rw[List.replicate_succ',List.append_assoc,List.append_assoc];rfl
  ·rw[Lib.decDigits,dif_neg h10];obtain⟨i1,i2⟩:=ih (g/10) (by omega)
   refine⟨by rw[List.length_append];simp;omega,?_⟩;rw[ZcV,<-i2,List.length_append,List.length_singleton,show k+1+1-((Lib.decDigits (g/10)).length+1)=k+1-(Lib.decDigits (g/10)).length by omega,List.append_assoc]
theorem ZdR(x g:Nat)(hx:x≠0)(hg:g<1000000000):QO (g+1000000000*x)=QO x++(List.replicate (9-(Lib.decDigits g).length) 48++Lib.decDigits g):=by
 have h:=Zgn 9 x g hx (by omega);rw[(ZeA 8 g (by omega)).2,<-h]
 congr 1
 omega
end
section
open Go.RowKit Go.Shelf
theorem ZdS{l:List UInt8}(hall:l.all QF=true)(hz:∀b t,l=b::t->(b==48)=false)(hn:l≠[]):Qp (45::l)=(l,true):=by
 have ht:Lib.trimPrefix (45::l) [45]=l:=by simp[Lib.trimPrefix,Lib.hasPrefix,List.isPrefixOf]
 have hp:Lib.hasPrefix (45::l) [45]=true:=by simp[Lib.hasPrefix,List.isPrefixOf]
 cases l with
 |nil=>exact absurd rfl hn
 |cons b t=>
  unfold Qp;simp only[ht,hall,hp,if_true];rw[List.dropWhile_cons,hz b t rfl];rfl
theorem Qz(n:Int):val (Qn n)=n:=by
 by_cases h0:n=0
 ·subst h0;decide+kernel
 ·have hne:n.natAbs≠0:=by omega
  obtain⟨b,l,e,h1,h2⟩:=JH n.natAbs hne
  rw[JK]
  by_cases hn:n<0
  ·rw[if_pos hn];have h:=ZdS (l:=QO n.natAbs) (ZaS _) (fun c t e'=>by rw[e] at e';injection e' with e1 e2;rw[<-e1];exact h1) (by rw[e];simp);unfold val;rw[show([45]++QO n.natAbs:List UInt8)=45::QO n.natAbs from rfl,h];simp only[if_true,ZbP];omega
  ·rw[if_neg hn,List.nil_append];unfold val;rw[ZdQ _ hne];simp only[Bool.false_eq_true,if_false,ZbP];omega
theorem ZaB:val []=0:=by decide+kernel
theorem Zgo{m n:Int}(h:Qn m=Qn n):m=n:=by rw[<-Qz m,h,Qz]
theorem ZaT(a:List UInt8):(val a).natAbs<10^a.length:=by
 have h1:=Jf (ZaA a).1;have h2:=ZaR a;have h3:10^(Qp a).1.length<=10^a.length:=Nat.pow_le_pow_right (by omega) h2;unfold val
 split<;>omega
theorem Zam{m L:Nat}:m<10^L->(QO m).length<=L:=by
 induction L generalizing m with
 |zero=>intro h;simp at h;subst h;simp[QO]
 |succ L ih=>
  intro h
  by_cases h0:m=0
  ·subst h0;simp[QO]
  ·rw[XB m h0,List.length_append,List.length_singleton];have:=ih (m:=m/10) (by rw[Nat.pow_succ] at h;omega)
   omega
theorem QT{n:Int}{L:Nat}(h:n.natAbs<10^L):(Qn n).length<=L+1:=by
 have:=Zam h
 rw[JK,List.length_append]
 split<;>simp<;>omega
structure Fr where
 n:List UInt8
 d:List UInt8
deriving DecidableEq
theorem Fr.ext_{f g:Fr}(h1:f.n=g.n)(h2:f.d=g.d):f=g:=by cases f;cases g;simp_all
def Fr.zero:Fr:=⟨[],[]⟩
def Fr.dv(f:Fr):Int:=if val f.d=0 then 1 else val f.d
theorem Fr.dv_ne(f:Fr):f.dv≠0:=by
 unfold Fr.dv
 split
 ·omega
 ·assumption
def Fr.rat(f:Fr):Rat:=Rat.divInt (val f.n) f.dv
def QP(q:Rat):Fr:=⟨Qn q.num,if q.den=1 then[] else Qn q.den⟩
theorem ZcW(q:Rat):(QP q).rat=q:=by
 unfold Fr.rat Fr.dv QP;simp only[Qz]
 by_cases h:q.den=1
 ·rw[if_pos h,if_pos ZaB];have:=Rat.num_divInt_den q
  rw[h] at this;exact this
 ·rw[if_neg h,Qz,if_neg (by have:=q.den_nz;omega)];exact Rat.num_divInt_den q
theorem Zfi:QP 0=Fr.zero:=rfl
theorem Zgp:Fr.zero.rat=0:=by rw[<-Zfi,ZcW]
theorem ZeB(f g:Fr):f.rat-g.rat=Rat.divInt (val f.n*g.dv-val g.n*f.dv) (f.dv*g.dv):=Rat.divInt_sub_divInt _ _ f.dv_ne g.dv_ne
theorem Zif(n d:Int)(hd:0<d):Int.fdiv n (Int.gcd n d)=(Rat.divInt n d).num:=by
 rw[Rat.num_divInt,Int.sign_eq_one_of_pos hd,Int.one_mul,Int.gcd_comm d n,Int.fdiv_eq_ediv_of_nonneg _ (by omega)]
theorem Zig(n d:Int)(hd:0<d):Int.fdiv d (Int.gcd n d)=(Rat.divInt n d).den:=by
 rw[Rat.den_divInt,if_neg (by omega),Int.gcd_comm d n,Int.fdiv_eq_ediv_of_nonneg _ (by omega),Int.natCast_ediv,Int.natAbs_of_nonneg (by omega)]
theorem Zih(n d:Int)(hd:d≠0):(0:Int)<Int.gcd n d:=by
 have:=Int.gcd_pos_of_ne_zero_right n hd
 omega
theorem ZbB(n d:Int):(Rat.divInt n d).num.natAbs<=n.natAbs:=by
 rw[Rat.num_divInt];have h1:(d.sign*n/(d.gcd n:Int)).natAbs<=(d.sign*n).natAbs:=Int.natAbs_ediv_le_natAbs _ _
 have h2:(d.sign*n).natAbs<=n.natAbs:=by
  rw[Int.natAbs_mul]
  have:d.sign.natAbs<=1:=by
   rcases Int.lt_trichotomy d 0 with h|h|h
   ·rw[Int.sign_eq_neg_one_of_neg h];decide
   ·rw[h];decide
   ·rw[Int.sign_eq_one_of_pos h];decide
  calc d.sign.natAbs*n.natAbs<=1*n.natAbs:=Nat.mul_le_mul_right _ this
   _=n.natAbs:=Nat.one_mul _
 omega
theorem ZbC(n d:Int)(hd:d≠0):(Rat.divInt n d).den<=d.natAbs:=by
 rw[Rat.den_divInt,if_neg hd];exact Nat.div_le_self _ _
def RB(L:Nat)(q:Rat):Prop:=q.num.natAbs<10^L/\q.den<10^L
theorem RB.more{L M:Nat}{q:Rat}(h:RB L q)(hLM:L<=M):RB M q:=
 ⟨Nat.lt_of_lt_of_le h.1 (Nat.pow_le_pow_right (by omega) hLM),Nat.lt_of_lt_of_le h.2 (Nat.pow_le_pow_right (by omega) hLM)⟩
theorem RB.divInt{L:Nat}{n d:Int}(hn:n.natAbs<10^L)(hd:d.natAbs<10^L)(h0:d≠0):RB L (Rat.divInt n d):=
 ⟨Nat.lt_of_le_of_lt (ZbB n d) hn,Nat.lt_of_le_of_lt (ZbC n d h0) hd⟩
def Fr.Sz(L:Nat)(f:Fr):Prop:=f.n.length<=L/\f.d.length<=L
theorem Fr.dv_lt{f:Fr}{L:Nat}(h:f.d.length<=L)(hL:1<=L):f.dv.natAbs<10^L:=by
 unfold Fr.dv;have h1:=ZaT f.d;have h2:10^f.d.length<=10^L:=Nat.pow_le_pow_right (by omega) h;have h3:10^1<=10^L:=Nat.pow_le_pow_right (by omega) hL
 split<;>omega
theorem YN{a:List UInt8}{L:Nat}(h:a.length<=L):(val a).natAbs<10^L:=
 Nat.lt_of_lt_of_le (ZaT a) (Nat.pow_le_pow_right (by omega) h)
theorem Xq{a b:Int}{L M:Nat}(ha:a.natAbs<10^L)(hb:b.natAbs<10^M):(a*b).natAbs<10^(L+M):=by
 rw[Int.natAbs_mul,Nat.pow_add];have h0:0<10^M:=Nat.pow_pos (by omega)
 rcases Nat.eq_zero_or_pos a.natAbs with h|h
 ·rw[h,Nat.zero_mul];exact Nat.mul_pos (Nat.pow_pos (by omega)) h0
 ·exact Nat.lt_of_lt_of_le (Nat.mul_lt_mul_of_pos_left hb h) (Nat.mul_le_mul_right _ (Nat.le_of_lt ha))
theorem ZaU{a b:Int}{L:Nat}(ha:a.natAbs<10^L)(hb:b.natAbs<10^L):(a-b).natAbs<10^(L+1):=by
 rw[Nat.pow_succ];omega
theorem Zii{q:Rat}{L:Nat}(h:RB L q):(QP q).Sz (L+1):=by
 refine⟨QT h.1,?_⟩;unfold QP;simp only
 split
 ·simp
 ·exact QT (by simpa using h.2)
theorem Fr.Sz.more{f:Fr}{L M:Nat}(h:f.Sz L)(hLM:L<=M):f.Sz M:=⟨Nat.le_trans h.1 hLM,Nat.le_trans h.2 hLM⟩
theorem Zjz{f g:Fr}{L:Nat}(hf:f.Sz L)(hg:g.Sz L)(hL:1<=L):RB (L+L+1) (f.rat-g.rat):=by
 rw[ZeB];have h0:=Int.mul_ne_zero f.dv_ne g.dv_ne;refine RB.divInt (ZaU (Xq (YN hf.1) (Fr.dv_lt hg.2 hL)) (Xq (YN hg.1) (Fr.dv_lt hf.2 hL))) ?_ h0;exact Nat.lt_of_lt_of_le (Xq (Fr.dv_lt hf.2 hL) (Fr.dv_lt hg.2 hL)) (Nat.pow_le_pow_right (by omega) (by omega))
def JL(x y:Rat):Int:=if x<y then-1 else if y<x then 1 else 0
def Ye(n:Int):Int:=if n<0 then-1 else if 0<n then 1 else 0
theorem Zgq(x y:Rat):JL x y=Ye (x-y).num:=by
 unfold JL Ye
 have e1:(x-y).num<0↔x<y:=by
  have h:=Rat.num_nonneg (q:=x-y);have h2:=Rat.le_iff_sub_nonneg y x;rw[<-Rat.not_le,h2,<-h];omega
 have e2:0<(x-y).num↔y<x:=by
  have h:=Rat.num_nonneg (q:=y-x);have h2:=Rat.le_iff_sub_nonneg x y;rw[<-Rat.not_le,h2,<-h,<-Rat.neg_sub x y,Rat.neg_num];omega
 simp only[e1,e2]
def Fr.ok(f:Fr):Prop:=f=QP f.rat
instance (f:Fr):Decidable f.ok:=inferInstanceAs (Decidable (f=QP f.rat))
end
section
open Go.RowKit Go.Shelf
structure Lot where
 id:List UInt8
 inst:List UInt8
 acq:Int
 opn:Int
 q:List UInt8
 c:List UInt8
 u:List UInt8
deriving DecidableEq
def Zkj(a:List UInt8):Bool:=decide (a=Qn (val a))
def VR(c:UInt8):Bool:=(decide (97<=c)&&decide (c<=122))||(decide (48<=c)&&decide (c<=57))||c==95
def Qv(s:List UInt8):Bool:=decide (s≠[])&&decide (s.length<=16)&&s.all VR
def ZcX(s:List UInt8):Bool:=decide (1<=s.length)&&decide (s.length<=4)&&decide (s.head?≠some 48)&&s.all QF
def idB(s:List UInt8):Bool:=decide (47∈s)&&Qv (s.takeWhile (·!=47))&&ZcX ((s.dropWhile (·!=47)).drop 1)
def ZjA(d:Int):Bool:=decide (-25567<=d)&&decide (d<=84005)
structure Lot.Ok (l:Lot):Prop where
 id:idB l.id=true
 inst:Qv l.inst=true
 acq:ZjA l.acq=true
 opn:ZjA l.opn=true
 ord:l.acq<=l.opn
 q:Zkj l.q=true
 c:Zkj l.c=true
 q0:0<val l.q
 c0:0<=val l.c
 u:l.u=[]\/l.u=l.q
structure LotsOk (l:List Lot):Prop where
 len:l.length<=1000
 ok:∀x∈l,x.Ok
 ids:(l.map (·.id)).Nodup
def leS(a b:List UInt8):Bool:=Op.bytesLess a b||a==b
def ZeC(l:List Lot)(i:List UInt8):Nat:=l.length-(l.reverse.takeWhile (fun y=> !leS y.inst i)).length
def Zkk(l:List Lot)(x:Lot):List Lot:=l.take (ZeC l x.inst)++x::l.drop (ZeC l x.inst)
end
section
open Go.RowKit Go.Shelf
end
section
open Go.RowKit Go.Shelf
theorem ZcY(l m:List Int):(l++m).sum=l.sum+m.sum:=by
 induction l with
 |nil=>simp
 |cons a l ih=>simp only[List.cons_append,List.sum_cons,ih];omega
end
section
open Go.RowKit Go.Shelf
def Zfj(ws:List (List UInt8)):Int:=(ws.map val).sum
theorem Zgr{ws:List (List UInt8)}{L:Nat}(h:∀x∈ws,x.length<=L):(Zfj ws).natAbs<=ws.length*10^L:=by
 unfold Zfj
 induction ws with
 |nil=>simp
 |cons a l ih=>
  have h1:=ih (fun x hx=>h x (by simp[hx]));have h2:=YN (h a (by simp));simp only[List.map_cons,List.sum_cons,List.length_cons,Nat.succ_mul];omega
theorem Zgs{ws:List (List UInt8)}{L:Nat}(h:∀x∈ws,x.length<=L)(hn:ws.length<=9999):(Qn (Zfj ws)).length<=L+5:=by
 refine QT (L:=L+4) ?_;have h1:=Zgr h;have h2:ws.length*10^L<10^4*10^L:=Nat.mul_lt_mul_of_pos_right (by omega) (Nat.pow_pos (by omega));rw[Nat.pow_add,Nat.mul_comm (10^L)];omega
end
section
open Go.RowKit
theorem ZdT(n:Int):Rat.divInt n 1=(n:Rat):=by
 have:=Rat.num_divInt_den (n:Rat)
 simpa using this
end
section
open Go.RowKit Go.Shelf
structure Mp where
 cause:List UInt8
 day:Int
 inst:List UInt8
 other:List UInt8
 ratio:Fr
 share:Fr
 price:Fr
 keep:Bool
deriving DecidableEq
structure Mp.Ok (m:Mp):Prop where
 cause:Qv m.cause=true
 inst:Qv m.inst=true
 other:Qv m.other=true
 day:ZjA m.day=true
 ratio:m.ratio.ok
 share:m.share.ok
 price:m.price.ok
 r0:0<m.ratio.rat
 s0:0<=m.share.rat
 s1:m.share.rat<=1
 p0:0<=m.price.rat
 keep:m.keep=true->m.other≠m.inst
 all:m.keep=false->m.share.rat=1
structure Plan where
 exact:Rat
 parts:Int
 part:Rat
 moved:Int
 taken:Int
 cash:Int
 n:List Int
 m:List Int
 f:List Int
 p:List Int
end
section
open Go.RowKit Go.Shelf
def Plan.mv(x:Plan)(i:Nat):Int:=x.m.getD i 0-x.f.getD i 0
def Plan.rest(x:Plan)(i:Nat):Int:=(((List.range i).filter fun k=>decide (x.n.getD k 0=0)).map x.mv).sum
structure Gain where
 cause:List UInt8
 lot:List UInt8
 inst:List UInt8
 acq:Int
 closed:Int
 q:List UInt8
 proceeds:List UInt8
 cost:List UInt8
 deferred:List UInt8
 replaced:List UInt8
deriving DecidableEq
structure Stp where
 cause:List UInt8
 src:List UInt8
 dst:List UInt8
 q:List UInt8
 made:List UInt8
 cost:List UInt8
deriving DecidableEq
structure Res where
 lots:List Lot
 gains:List Gain
 steps:List Stp
def Res.none:Res:=⟨[],[],[]⟩
theorem Zgt(a:List UInt8):leS a a=true:=by unfold leS;simp
structure CutAt (i:List UInt8) (A B:List Lot):Prop where
 b:∀y∈B,leS y.inst i=false
 a:A=[]\/∃A' y,A=A'++[y]/\leS y.inst i=true
theorem CutAt.at_{i:List UInt8}{A B:List Lot}(h:CutAt i A B):ZeC (A++B) i=A.length:=by
 unfold ZeC
 have e:((A++B).reverse.takeWhile (fun y=> !leS y.inst i))=B.reverse:=by
  rw[List.reverse_append,List.takeWhile_append_of_pos (fun y hy=>by simp[h.b y (by simpa using hy)])]
  have e2:A.reverse.takeWhile (fun y=> !leS y.inst i)=[]:=by
   rcases h.a with rfl|⟨A',y,rfl,hy⟩
   ·rfl
   ·rw[List.reverse_append];simp[hy]
  rw[e2,List.append_nil]
 rw[e];simp
theorem CutAt.put{A B:List Lot}{x:Lot}(h:CutAt x.inst A B):Zkk (A++B) x=A++x::B:=by
 unfold Zkk;rw[h.at_,List.take_left,List.drop_left]
theorem CutAt.next{A B:List Lot}{x:Lot}(h:CutAt x.inst A B):CutAt x.inst (A++[x]) B:=⟨h.b,.inr ⟨A,x,rfl,Zgt _⟩⟩
theorem LotsOk.put{l:List Lot}{x:Lot}(h:LotsOk l)(hx:x.Ok)(hid:x.id ∉ l.map (·.id))(hl:l.length<1000){A B:List Lot}(e:l=A++B):LotsOk (A++x::B):=by
 subst e;have hp:(A++x::B).Perm (x::(A++B)):=List.perm_middle;refine⟨?_,?_,?_⟩
 ·rw[hp.length_eq];simp at hl ⊢; omega
 ·intro y hy
  rcases List.mem_cons.1 (hp.mem_iff.1 hy) with rfl|hy
  ·exact hx
  ·exact h.ok y hy
 ·rw[(hp.map (·.id)).nodup_iff,List.map_cons,List.nodup_cons];exact⟨hid,h.ids⟩
end
section
open Go.RowKit Go.Shelf
end
section
open Go.RowKit Go.Shelf
theorem Zfk(l:List UInt8)(h:l.all QF=true):∀acc:Nat,acc*10^l.length+Qm l<1000000000000000000->Lib.parseUint10 acc l=.ok (acc*10^l.length+Qm l):=by
 induction l with
 |nil=>intro acc _;simp[Lib.parseUint10,Qm]
 |cons b l ih=>
  intro acc hb;simp only[List.all_cons,Bool.and_eq_true] at h;have h1:=(XC b).1 h.1
  have e:Qm (b::l)=(b.toNat-48)*10^l.length+Qm l:=by
   have:=Vg [b] l
   simpa[Qm] using this
  rw[e,List.length_cons,Nat.pow_succ] at hb ⊢;have hp:1<=10^l.length:=Nat.pow_pos (by omega)
  have e2:acc*(10^l.length*10)+((b.toNat-48)*10^l.length+Qm l)=(acc*10+(b.toNat-48))*10^l.length+Qm l:=by
   rw[Nat.add_mul,Nat.mul_assoc,Nat.mul_comm 10,Nat.add_assoc]
  rw[e2] at hb ⊢;have h3:acc*10+(b.toNat-48)<=(acc*10+(b.toNat-48))*10^l.length:=Nat.le_mul_of_pos_right _ hp;unfold Lib.parseUint10;rw[if_pos (by omega),if_neg (by omega),if_neg (by omega)];exact ih h.2 _ hb
theorem Zgu{l:List UInt8}(h:l.all QF=true)(hn:l≠[])(h4:l.length<=17):Lib.atoiAll l=.ok (Qm l:Int):=by
 cases l with
 |nil=>exact absurd rfl hn
 |cons b t=>
  have hb:=h;simp only[List.all_cons,Bool.and_eq_true] at hb;have h1:=(XC b).1 hb.1;rw[Lib.atoiAll_plain b t (by omega) (by omega)];unfold Lib.parseMag;rw[if_neg (by simp)];have hv:=Jf h;have hp:10^(b::t).length<=10^17:=Nat.pow_le_pow_right (by omega) h4;rw[Zfk _ h 0 (by omega)];simp only[Nat.zero_mul,Nat.zero_add];unfold Lib.signless;simp only;rw[if_neg (by omega)]
theorem Zfl{k:Nat}(h1:1<=k)(h2:k<=9999):ZcX (QO k)=true:=by
 unfold ZcX;obtain⟨b,l,e,hb,_⟩:=JH k (by omega)
 have h3:=Zam (m:=k) (L:=4) (by omega);have h4:=Zgk k (by omega)
 have h5:(some b:Option UInt8)≠some 48:=fun e2=>by
  injection e2 with e2;subst e2;exact absurd hb (by decide)
 rw[ZaS,decide_eq_true h3,decide_eq_true h4,e,List.head?_cons,decide_eq_true h5];rfl
theorem Zfm(l:List UInt8):ZcX l=match Lib.atoiAll l with| .ok v=>decide (1<=v)&&(decide (v<=9999)&&(Lib.itoa v==l))|_=>false:=by
 by_cases h:ZcX l=true
 ·have h':=h;unfold ZcX at h';simp only[Bool.and_eq_true,decide_eq_true_eq] at h';obtain⟨⟨⟨a1,a2⟩,a3⟩,a4⟩:=h'
  have hne:l≠[]:=fun e=>by rw[e] at a1;simp at a1
  rw[h,Zgu a4 hne (by omega)]
  have hd:QO (Qm l)=l:=Zfh a4 (fun b t e=>by
   rw[e] at a3;simp only[List.head?_cons,ne_eq,Option.some.injEq] at a3;simpa using a3)
  have hv:Qm l<10^4:=Nat.lt_of_lt_of_le (Jf a4) (Nat.pow_le_pow_right (by omega) a2);have h0:Qm l≠0:=fun e=>by rw[e] at hd;exact hne hd.symm
  have hi:Lib.itoa (Qm l:Int)=l:=by
   unfold Lib.itoa;rw[if_neg (by omega)]
   conv=>rhs;rw[<-hd]
   unfold QO;rw[if_neg h0];simp
  simp only[hi,beq_self_eq_true,Bool.and_true];rw[decide_eq_true (show(1:Int)<=(Qm l:Int) by omega),decide_eq_true (show(Qm l:Int)<=9999 by omega)];rfl
 ·have hf:ZcX l=false:=by simpa using h
  rw[hf]
  rcases ha:Lib.atoiAll l with v|_|_
  ·simp only
   cases h1:decide (1<=v) with
   |false=>rfl
   |true=>
    cases h2:decide (v<=9999) with
    |false=>rfl
    |true=>
     cases h3:Lib.itoa v==l with
     |false=>rfl
     |true=>
      exfalso
      apply h
      have h3:=eq_of_beq h3;simp only[decide_eq_true_eq] at h1 h2;rw[<-h3];unfold Lib.itoa;rw[if_neg (by omega)];have:=Zfl (k:=v.toNat) (by omega) (by omega)
      unfold QO at this;rw[if_neg (by omega)] at this;simpa using this
  ·rfl
  ·rfl
def Yo(s:List UInt8):List UInt8:=s.takeWhile (·!=47)
def VX(s:List UInt8):List UInt8:=(s.dropWhile (·!=47)).drop 1
theorem ZbQ(s:List UInt8):(47∈s->Lib.indexByte s 47=((Yo s).length:Nat)/\(Yo s).length<s.length/\s.take (Yo s).length=Yo s/\s.drop ((Yo s).length+1)=VX s)/\(47 ∉ s->Lib.indexByte s 47= -1/\Yo s=s/\VX s=[]):=by
 induction s with
 |nil=>exact⟨fun h=>by simp at h,fun _=>⟨rfl,rfl,rfl⟩⟩
 |cons b l ih=>
  by_cases hb:b=47
  ·subst hb;refine⟨fun _=> ?_,fun h=>absurd (List.mem_cons_self) h⟩;refine⟨rfl,by simp[Yo],by simp[Yo],?_⟩;simp[Yo,VX]
  ·have e1:Yo (b::l)=b::Yo l:=by unfold Yo;rw[List.takeWhile_cons];simp[hb]
   have e2:VX (b::l)=VX l:=by unfold VX;rw[List.dropWhile_cons];simp[hb]
   have hbb:(b==47)=false:=by simpa using hb
   constructor
   ·intro h
    have hl:47∈l:=by
     rcases List.mem_cons.1 h with e|h
     ·exact absurd e.symm hb
     ·exact h
    obtain⟨a1,a2,a3,a4⟩:=ih.1 hl
    refine⟨?_,?_,?_,?_⟩
    ·rw[Lib.indexByte,hbb,a1,e1];simp only[Bool.false_eq_true,if_false];rw[if_neg (by simp)];simp
    ·rw[e1];simp;omega
    ·rw[e1];simp[a3]
    ·rw[e1,e2];simpa using a4
   ·intro h;have hl:47 ∉ l:=fun hm=>h (List.mem_cons_of_mem b hm)
    obtain⟨a1,a2,a3⟩:=ih.2 hl
    refine⟨?_,by rw[e1,a2],by rw[e2,a3]⟩;rw[Lib.indexByte,hbb,a1];rfl
theorem ZjC(s:List UInt8):idB s=(ZcX (VX s)&&Qv (Yo s)):=by
 unfold idB
 by_cases h:47∈s
 ·rw[decide_eq_true h,Bool.true_and,Bool.and_comm];rfl
 ·rw[decide_eq_false h];have e:VX s=[]:=((ZbQ s).2 h).2.2;rw[e];rfl
end
section
structure Pk where
 lot:List UInt8
 q:List UInt8
deriving DecidableEq
structure Opn where
 other:List UInt8
 ratio:Fr
 price:Fr
 value:Fr
deriving DecidableEq
structure Fct where
 key:List UInt8
 stamp:Int
 cancelled:Bool
 day:Int
 kind:Int
 inst:List UInt8
 other:List UInt8
 cur:List UInt8
 target:List UInt8
 q:List UInt8
 amount:List UInt8
 fee:List UInt8
 price:Fr
 ratio:Fr
 share:Fr
 picks:List Pk
 options:List Opn
 choice:Int
deriving DecidableEq
structure KRow where
 cls:Int
 nums:List (Nat×Bool×Bool)
 more:List Nat
 code:Bool
def XT(k:Int):Option KRow:=
 match k with
 |1|2|6|17|18=>some ⟨2,[(5,true,false)],[2],false⟩
 |3=>some ⟨3,[(4,true,false),(5,false,false),(6,false,false)],[0],false⟩
 |4=>some ⟨3,[(4,true,false),(5,false,false),(6,false,false)],[0,10],false⟩
 |5=>some ⟨1,[(7,true,false)],[0],false⟩
 |7=>some ⟨2,[(4,true,false),(5,true,false)],[1,2],true⟩
 |8=>some ⟨1,[(7,false,false),(8,true,false)],[0],false⟩
 |9=>some ⟨1,[(7,false,false),(8,true,false),(9,false,true)],[0,1],false⟩
 |10=>some ⟨1,[],[0,11],false⟩
 |11=>some ⟨4,[],[0,3,12],false⟩
 |12=>some ⟨3,[(4,true,false),(7,false,false),(8,true,false)],[0,1],false⟩
 |13=>some ⟨1,[(7,true,false)],[0],false⟩
 |14=>some ⟨1,[(7,false,false)],[0],false⟩
 |15=>some ⟨4,[(7,false,false)],[0],false⟩
 |16=>some ⟨4,[(8,true,false)],[1,2],true⟩
 |_=>none
def KRow.has(r:KRow)(i:Nat):Bool:=r.nums.any (fun x=>x.1==i)||r.more.contains i
def Jg(s:List UInt8):Bool:=s.length==3&&s.all fun b=>decide (65<=b.toNat)&&decide (b.toNat<=90)
def Zcn(a:List UInt8):Nat:=if a.head?=some 45 then a.length-1 else a.length
def Fct.num(f:Fct)(i:Nat):Fr:=
 match i with
 |4=>⟨f.q,[]⟩
 |5=>⟨f.amount,[]⟩
 |6=>⟨f.fee,[]⟩
 |7=>f.price
 |8=>f.ratio
 |9=>f.share
 |_=>⟨[],[]⟩
def Fct.none(f:Fct)(i:Nat):Bool:=
 match i with
 |0=>f.inst==[]
 |1=>f.other==[]
 |2=>f.cur==[]
 |3=>f.target==[]
 |10=>f.picks.isEmpty
 |11=>f.options.isEmpty
 |12=>f.choice==0
 |i=>decide (f.num i=⟨[],[]⟩)
def XD(pos part:Bool)(f:Fr):Int:=
 if ¬f.ok then 1 else if 40<Zcn f.n\/40<Zcn f.d then 4 else if f.rat<0\/(pos=true/\f.rat=0)\/(part=true/\1<f.rat) then 2 else 0
def Yt:List Pk->List Pk->Int->Int×Int
 |[],_,sum=>(0,sum)
 |p::ps,pre,sum=>
  if idB p.lot=false then(23,sum) else if pre.any (fun x=>x.lot==p.lot) then(5,sum)
  else if XD true false ⟨p.q,[]⟩≠0 then(XD true false ⟨p.q,[]⟩,sum) else Yt ps (pre++[p]) (sum+val p.q)
def JM(f:Fct):Int:=
 if 64<f.picks.length then 4 else if(Yt f.picks [] 0).1≠0 then(Yt f.picks [] 0).1 else if val f.q<(Yt f.picks [] 0).2 then 15 else 0
def JN(inst:List UInt8):List Opn->Int
 |[]=>0
 |o::os=>
  if o.other≠[]/\Qv o.other=false then 23 else if o.other=inst then 18
  else if XD false false o.ratio≠0 then XD false false o.ratio else if XD false false o.price≠0 then XD false false o.price else if XD false false o.value≠0 then XD false false o.value
  else if decide (o.other≠[])≠decide (o.ratio≠⟨[],[]⟩)\/(o.other=[]/\o.value≠⟨[],[]⟩) then 2 else JN inst os
def ZbR(f:Fct):Int:=if f.options.length=0 then 11 else if 8<f.options.length then 4 else JN f.inst f.options
def YC(f:Fct)(r:KRow)(i:Nat):Int:=
 match i with
 |0=>if Qv f.inst=false then 23 else 0
 |1=>if r.code=true then(if Jg f.other=false then 12 else if f.other=f.cur then 18 else 0) else if Qv f.other=false then 23 else if f.other=f.inst then 18 else 0
 |2=>if Jg f.cur=false then 12 else 0
 |3=>if Qv f.target=false then 23 else 0
 |10=>JM f
 |11=>ZbR f
 |12=>if f.choice<0 then 2 else 0
 |i=>match r.nums.find? (fun x=>x.1==i) with
  |some (_,pos,part)=>XD pos part (f.num i)
  |none=>0
def Vh(f:Fct)(r:KRow)(i:Nat):Nat->Int
 |0=>0
 |n+1=>
  if r.has i=true then(if YC f r i≠0 then YC f r i else Vh f r (i+1) n)
  else if f.none i=false then 1 else Vh f r (i+1) n
def Qf(f:Fct):Int:=
 if Qv f.key=false then 23 else if f.stamp<0 then 2
 else if f.cancelled=true then(if f=⟨f.key,f.stamp,true,0,0,[],[],[],[],[],[],[],⟨[],[]⟩,⟨[],[]⟩,⟨[],[]⟩,[],[],0⟩ then 0 else 1)
 else if f.day< -25567\/84005<f.day then 13
 else match XT f.kind with
  |none=>7
  |some r=>Vh f r 0 13
end
section
open Go
def ZcC(s t:List UInt8):Int:=if Op.bytesLess s t=true then-1 else if Op.bytesLess t s=true then 1 else 0
def Yp(a b:Int):Int:=if a<b then-1 else if b<a then 1 else 0
def QZ(k:Int):Int:=match XT k with
 |some r=>r.cls
 |none=>0
def Xy(f g:Fct):Int:=if Yp f.day g.day≠0 then Yp f.day g.day else if Yp (QZ f.kind) (QZ g.kind)≠0 then Yp (QZ f.kind) (QZ g.kind) else ZcC f.key g.key
def Za8(p:Option Int)(s:Int):Bool:=match p with
 |some t=>decide (s<t)
 |none=>false
def Zb2(p:Option Fct)(f:Fct):Bool:=match p with
 |some g=>decide (0<=Xy g f)
 |none=>false
def Za9:Option Int->List Fct->Int
 |_,[]=>0
 |p,f::fs=>if Qf f≠0 then Qf f else if Za8 p f.stamp=true then 8 else Za9 (some f.stamp) fs
def Vq(l:List Fct):Int:=if 1000<l.length then 4 else Za9 none l
def Xd(seen:List (List UInt8)):List Fct->List Fct
 |[]=>[]
 |f::fs=>if seen.contains f.key=true then Xd seen fs else f::Xd (f.key::seen) fs
def Vr(l:List Fct):List Fct:=Xd [] l.reverse
def QE(f:Fct):Fct:={f with stamp:=0}
def VP(f:Fct):List Fct->List Fct
 |[]=>[f]
 |g::gs=>if Xy f g<0 then f::g::gs else g::VP f gs
def QC:List Fct->List Fct
 |[]=>[]
 |f::fs=>VP f (QC fs)
def JC(l:List Fct):List Fct:=QC (((Vr l).filter fun f=> !f.cancelled).map QE)
def ofV(l:List Fct)(k:Int):List Fct×Int:=if Vq l≠0 then([],1) else if k<0\/(l.length:Int)<k then([],2) else(JC (l.take k.toNat),0)
def ZcD:List Fct->List Fct->Int
 |_,[]=>0
 |pre,f::fs=>
  if Qf f≠0 then Qf f else if f.cancelled=true then 19 else if f.stamp≠0 then 1 else if(pre.any fun g=>g.key==f.key)=true then 5
  else if Zb2 pre.getLast? f=true then 8 else ZcD (pre++[f]) fs
def Yi(v:List Fct):Int:=if 1000<v.length then 4 else ZcD [] v
def YI(v:List Fct)(key:List UInt8):Option Nat:=v.findIdx? fun f=>f.key==key
def JS(v:List Fct)(d:Int):List Fct×Int:=if Yi v≠0 then([],1) else if d< -25567\/84005<d then([],13) else(v.filter fun f=>decide (f.day<=d),0)
def QI(v:List Fct)(f:Fct):List Fct:=if f.cancelled=true then v.filter fun x=>x.key !=f.key else VP (QE f) (v.filter fun x=>x.key !=f.key)
def Yj(v:List Fct)(f:Fct):List Fct×Int:=if Yi v≠0 then([],1) else if Qf f≠0 then([],Qf f) else if 1000<(QI v f).length then([],4) else(QI v f,0)
def Qd(l:List Fct)(key:List UInt8):Option Fct:=l.reverse.find? fun f=>f.key==key
def Qs(a b:List Fct):List Fct:=a.filter fun f=>decide (Qd b f.key≠some f)
def ZbF(s:List UInt8):List (List UInt8)->List (List UInt8)
 |[]=>[s]
 |t::ts=>if Op.bytesLess s t=true then s::t::ts else if Op.bytesLess t s=true then t::ZbF s ts else t::ts
def YT:List (List UInt8)->List (List UInt8)
 |[]=>[]
 |s::ss=>ZbF s (YT ss)
def Zd7(a b:List Fct):List (List UInt8)×Int:=if Yi a≠0\/Yi b≠0 then([],1) else(YT ((Qs a b++Qs b a).map (·.key)),0)
def QV(p:Int×Bool)(f:Fct):Int×Bool:=if p.2=false\/f.day<p.1 then(f.day,true) else p
def JT(a b:List Fct):Int×Bool×Int:=if Yi a≠0\/Yi b≠0 then(0,false,1) else(((Qs a b++Qs b a).foldl QV (0,false)).1,((Qs a b++Qs b a).foldl QV (0,false)).2,0)
end
section
open Go
def XW(key:List UInt8)(stamp day:Int):Fct:=⟨key,stamp,false,day,1,[],[],[85,83,68],[],[],[53],[],⟨[],[]⟩,⟨[],[]⟩,⟨[],[]⟩,[],[],0⟩
def ZiU:Fct:=⟨[98],4,true,0,0,[],[],[],[],[],[],[],⟨[],[]⟩,⟨[],[]⟩,⟨[],[]⟩,[],[],0⟩
def aw4:List Fct:=[XW [97] 1 5,XW [98] 2 3,XW [97] 3 2,ZiU]
def awX:List Fct:=[XW [98] 0 3,XW [97] 0 5]
def awY:List Fct:=[XW [97] 0 2,XW [98] 0 3]
def awZ:List Fct:=[XW [97] 0 2]
theorem ZjU:ofV aw4 2=(awX,0):=by decide+kernel
theorem ZjV:ofV aw4 3=(awY,0):=by decide+kernel
theorem ZjW:ofV aw4 4=(awZ,0):=by decide+kernel
theorem Zhn:JT awX awY=(2,true,0):=by decide+kernel
theorem ZjX:Zd7 awX awY=([[97]],0):=by decide+kernel
end
end Go.Proofs.YtbcnkcldlealjaaGreatDoor
