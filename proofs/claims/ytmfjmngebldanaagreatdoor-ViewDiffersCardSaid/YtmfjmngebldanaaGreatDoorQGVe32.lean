/- M1, FR, Lp0, D0, A0, W0, Dv, Lp1, Lp2, Lp3, Lt0, Fk0, Vw0, R1, R7, Vaq. -/
import Derived.Test.YtmfjmngebldanaaGreatDoorQGVe18
import Derived.Lib.AtoiAllCases
import Derived.Lib.IndexLaws
import Derived.Deep.DeepCutAuto
set_option maxRecDepth 20000
set_option maxHeartbeats 1000000
namespace Go.Proofs.YtmfjmngebldanaaGreatDoor
open Go.Lib renaming hid→jq
section
open Go.RowKit Go.Shelf
def gv:List Nat->Nat
 |[]=>0
 |x::xs=>x+1000000000*gv xs
def Gs(xs:List Nat):Prop:=∀x∈xs,x<1000000000
def Nz(xs:List Nat):Prop:=xs.getLast?≠some 0
structure Mag (xs:List Nat) (v:Nat):Prop where
 gs:Gs xs
 nz:Nz xs
 val:gv xs=v
theorem Vm(xs ys:List Nat):gv (xs++ys)=gv xs+1000000000^xs.length*gv ys:=by
 induction xs with
 |nil=>simp[gv]
 |cons x xs ih=>
  rw[List.cons_append,gv,ih,gv,List.length_cons,Nat.pow_succ,Nat.mul_add,Nat.add_assoc,<-Nat.mul_assoc,Nat.mul_comm (1000000000^xs.length) 1000000000]
theorem Yj(xs:List Nat)(g:Nat):gv (xs++[g])=gv xs+1000000000^xs.length*g:=by rw[Vm];simp[gv]
theorem Gs.nil:Gs []:=fun x hx=>by cases hx
theorem Gs.snoc{xs:List Nat}{g:Nat}(h:Gs xs)(hg:g<1000000000):Gs (xs++[g]):=fun x hx=>by
 rcases List.mem_append.1 hx with h1|h1
 ·exact h x h1
 ·simp at h1;rw[h1];exact hg
theorem Gs.take{xs:List Nat}(h:Gs xs)(k:Nat):Gs (xs.take k):=fun x hx=>h x (List.mem_of_mem_take hx)
theorem Gs.at_{xs:List Nat}(h:Gs xs){i g:Nat}(hi:xs[i]?=some g):g<1000000000:=h g (List.mem_of_getElem? hi)
theorem Yz{xs:List Nat}(h:Gs xs):gv xs<1000000000^xs.length:=by
 induction xs with
 |nil=>simp[gv]
 |cons x xs ih=>
  have h1:=ih (fun y hy=>h y (by simp[hy]));have h2:=h x (by simp);rw[gv,List.length_cons,Nat.pow_succ];omega
theorem ZaR{xs:List Nat}(hn:xs≠[])(h:Nz xs):1000000000^(xs.length-1)<=gv xs:=by
 obtain⟨ys,g,rfl⟩:∃ys g,xs=ys++[g]:=⟨xs.dropLast,xs.getLast hn,(List.dropLast_concat_getLast hn).symm⟩
 have hg:g≠0:=fun e=>h (by rw[e];simp)
 rw[Yj,List.length_append,List.length_singleton,Nat.add_sub_cancel];exact Nat.le_trans (Nat.le_mul_of_pos_right _ (by omega)) (Nat.le_add_left _ _)
theorem XW(xs:List Nat)(i:Nat)(g:Nat)(h:xs[i]?=some g):gv (xs.take (i+1))=gv (xs.take i)+1000000000^i*g:=by
 obtain⟨hi,rfl⟩:=List.getElem?_eq_some_iff.1 h
 rw[List.take_succ_eq_append_getElem hi,Yj,List.length_take,Nat.min_eq_left (by omega)]
theorem XD(xs:List Nat)(i:Nat)(g:Nat)(h:xs[i]?=some g):gv (xs.drop i)=g+1000000000*gv (xs.drop (i+1)):=by
 obtain⟨hi,rfl⟩:=List.getElem?_eq_some_iff.1 h
 rw[List.drop_eq_getElem_cons hi,gv]
theorem Yo(xs:List Nat)(i:Nat)(hi:i<=xs.length):gv xs=gv (xs.take i)+1000000000^i*gv (xs.drop i):=by
 have:=Vm (xs.take i) (xs.drop i)
 rw[List.take_append_drop,List.length_take,Nat.min_eq_left hi] at this;exact this
theorem Mag.zero:Mag [] 0:=⟨Gs.nil,by unfold Nz;simp,rfl⟩
theorem Mag.nil_iff{xs:List Nat}{v:Nat}(h:Mag xs v):xs=[]↔v=0:=by
 constructor
 ·rintro rfl;exact h.val.symm
 ·intro hv
  by_cases hn:xs=[]
  ·exact hn
  ·have:=ZaR hn h.nz
   rw[h.val,hv] at this;have:=Nat.pow_pos (n:=xs.length-1) (show 0<1000000000 by decide)
   omega
theorem Mag.len{xs:List Nat}{v k:Nat}(h:Mag xs v)(hv:v<1000000000^k):xs.length<=k:=by
 by_cases hn:xs=[]
 ·rw[hn];simp
 ·have h1:=ZaR hn h.nz;rw[h.val] at h1;have h2:=Nat.lt_of_le_of_lt h1 hv;have:=(Nat.pow_lt_pow_iff_right (show 1<1000000000 by decide)).1 h2
  omega
theorem Zeu{α:Type}{P:List α->Prop}(h0:P [])(h1:∀l b,P l->P (l++[b]))(l:List α):P l:=by
 have:∀l:List α,P l.reverse:=by
  intro l
  induction l with
  |nil=>exact h0
  |cons a l ih=>rw[List.reverse_cons];exact h1 _ _ ih
 have h:=this l.reverse
 rwa [List.reverse_reverse] at h
def Qh(l:List UInt8):Nat:=l.foldl (fun n b=>10*n+(b.toNat-48)) 0
theorem JR(l:List UInt8)(n:Nat):l.foldl (fun n b=>10*n+(b.toNat-48)) n=n*10^l.length+Qh l:=by
 induction l generalizing n with
 |nil=>simp[Qh]
 |cons b l ih=>
  have e:Qh (b::l)=(10*0+(b.toNat-48))*10^l.length+Qh l:=by unfold Qh;rw[List.foldl_cons];exact ih _
  rw[List.foldl_cons,ih,e,List.length_cons,Nat.pow_succ,Nat.add_mul,Nat.mul_comm 10 n,Nat.mul_assoc,Nat.mul_comm 10 (10^l.length),Nat.mul_zero,Nat.zero_add,Nat.add_assoc]
theorem Yp(l l':List UInt8):Qh (l++l')=Qh l*10^l'.length+Qh l':=by
 unfold Qh;rw[List.foldl_append,JR];rfl
theorem YE(l:List UInt8)(b:UInt8):Qh (l++[b])=10*Qh l+(b.toNat-48):=by
 rw[Yp,Nat.mul_comm];simp[Qh]
theorem QG(b:UInt8):Qq b=true↔48<=b.toNat/\b.toNat<=57:=by
 unfold Qq;simp[UInt8.le_iff_toNat_le]
theorem Xs{l:List UInt8}:l.all Qq=true->Qh l<10^l.length:=by
 refine Zeu (P:=fun l=>l.all Qq=true->Qh l<10^l.length) ?_ ?_ l
 ·intro _;simp[Qh]
 ·intro l b ih h;rw[List.all_append] at h;simp only[List.all_cons,List.all_nil,Bool.and_true,Bool.and_eq_true] at h;have h1:=ih h.1;have h2:=(QG b).1 h.2;rw[YE,List.length_append,List.length_singleton,Nat.pow_succ];omega
theorem ZiV(b:UInt8)(h:Qq b=true):UInt8.ofNat (48+(b.toNat-48))=b:=by
 have h2:=(QG b).1 h;rw[show 48+(b.toNat-48)=b.toNat by omega];simp
theorem Ju{b:UInt8}{l:List UInt8}(h:(b::l).all Qq=true)(hb:(b==48)=false):Qh (b::l)≠0:=by
 have h1:Qq b=true:=by simp at h;exact h.1
 have h2:=(QG b).1 h1
 have h3:b.toNat≠48:=fun e=>by
  have:b=48:=UInt8.toNat_inj.1 e
  rw[this] at hb;simp at hb
 unfold Qh;rw[List.foldl_cons,JR];have:=Nat.pow_pos (n:=l.length) (show 0<10 by decide)
 have:0<(10*0+(b.toNat-48))*10^l.length:=Nat.mul_pos (by omega) this
 omega
theorem Jv{l:List UInt8}:l.all Qq=true->(∀b t,l=b::t->(b==48)=false)->QU (Qh l)=l:=by
 refine Zeu (P:=fun l=>l.all Qq=true->(∀b t,l=b::t->(b==48)=false)->QU (Qh l)=l) ?_ ?_ l
 ·intro _ _;simp[Qh,QU]
 ·intro l b ih h hz;have h':=h;rw[List.all_append] at h;simp only[List.all_cons,List.all_nil,Bool.and_true,Bool.and_eq_true] at h;have h2:=(QG b).1 h.2
  have hne:Qh (l++[b])≠0:=by
   cases l with
   |nil=>exact Ju h' (hz b [] rfl)
   |cons c t=>exact Ju h' (hz c (t++[b]) rfl)
  rw[XC _ hne,YE,show(10*Qh l+(b.toNat-48))/10=Qh l by omega,show(10*Qh l+(b.toNat-48))%10=b.toNat-48 by omega,ZiV b h.2,ih h.1 (fun c t e=>hz c (t++[b]) (by rw[e];rfl))]
theorem ZaS(m:Nat):Qh (QU m)=m:=by
 induction m using Nat.strongRecOn with
 |_ m ih=>
  by_cases h:m=0
  ·subst h;rfl
  ·rw[XC m h,YE,ih (m/10) (by omega)];have:(UInt8.ofNat (48+m%10)).toNat=48+m%10:=by simp;omega
   omega
def val(a:List UInt8):Int:=if(Qf a).2 then-(Qh (Qf a).1:Int) else Qh (Qf a).1
theorem XE(a:List UInt8):(Qf a).1.all Qq=true/\(∀b t,(Qf a).1=b::t->(b==48)=false)/\((Qf a).2=true->(Qf a).1≠[]):=by
 unfold Qf;simp only
 split
 ·rename_i h
  refine⟨?_,?_,?_⟩
  ·rw[List.all_eq_true] at h ⊢;exact fun x hx=>h x ((List.dropWhile_sublist _).subset hx)
  ·intro b t e;have e':(Lib.trimPrefix a [45]).dropWhile (·==48)=b::t:=e;clear e;have e:=e';have hne:(Lib.trimPrefix a [45]).dropWhile (·==48)≠[]:=by rw[e];simp
   have:=VR (·==48) (Lib.trimPrefix a [45]) hne
   simp only[e,List.head_cons] at this;exact this
  ·intro hh;simp only[Bool.and_eq_true,Bool.not_eq_true'] at hh;intro e;have e':(Lib.trimPrefix a [45]).dropWhile (·==48)=[]:=e;rw[e'] at hh;simp at hh
 ·simp
theorem Zev(a:List UInt8):(Qf a).1=QU (val a).natAbs:=by
 obtain⟨h1,h2,_⟩:=XE a
 unfold val
 split
 ·rw[Int.natAbs_neg,Int.natAbs_natCast,Jv h1 h2]
 ·rw[Int.natAbs_natCast,Jv h1 h2]
theorem ZdM(a:List UInt8):(Qf a).2=decide (val a<0):=by
 obtain⟨h1,h2,h3⟩:=XE a
 unfold val
 cases hn:(Qf a).2 with
 |false=>simp
 |true=>
  have hne:=h3 hn
  have hv:Qh (Qf a).1≠0:=by
   cases he:(Qf a).1 with
   |nil=>exact absurd he hne
   |cons b t=>rw[he] at h1;exact Ju h1 (h2 b t he)
  simp;omega
theorem YF(n:Int):Qe n=(if n<0 then[45] else[])++QU n.natAbs:=by
 unfold Qe QU
 by_cases h:n=0
 ·subst h;rfl
 ·rw[if_neg h,if_neg (by omega:n.natAbs≠0)]
  split<;>rfl
theorem ZhC(a:List UInt8):ZiR a=Qe (val a):=by
 unfold ZiR;rw[ZdM,Zev,YF]
 by_cases h:val a<0
 ·simp[h]
 ·simp[h]
def YL:Nat->Nat->List UInt8
 |0,_=>[]
 |k+1,g=>YL k (g/10)++[UInt8.ofNat (48+g%10)]
theorem Zew(k g:Nat):(YL k g).length=k:=by
 induction k generalizing g with
 |zero=>rfl
 |succ k ih=>rw[YL,List.length_append,ih];rfl
theorem ZiW(k:Nat):∀(x g:Nat),x≠0->g<10^k->QU (10^k*x+g)=QU x++YL k g:=by
 induction k with
 |zero=>intro x g hx hg;simp at hg;subst hg;simp[YL]
 |succ k ih=>
  intro x g hx hg;rw[Nat.pow_succ] at hg
  have e1:10^(k+1)*x+g=10*(10^k*x+g/10)+g%10:=by
   rw[Nat.pow_succ,Nat.mul_add,<-Nat.mul_assoc,Nat.mul_comm 10 (10^k)];omega
  have hne:10^(k+1)*x+g≠0:=by
   have:=Nat.mul_pos (Nat.pow_pos (n:=k+1) (show 0<10 by decide)) (Nat.pos_of_ne_zero hx)
   omega
  rw[XC _ hne,e1,show(10*(10^k*x+g/10)+g%10)/10=10^k*x+g/10 by omega,show(10*(10^k*x+g/10)+g%10)%10=g%10 by omega,ih x (g/10) hx (by omega),YL,List.append_assoc]
theorem ZgN(k:Nat):∀g:Nat,g<10^(k+1)->(Lib.decDigits g).length<=k+1/\List.replicate (k+1-(Lib.decDigits g).length) 48++Lib.decDigits g=YL (k+1) g:=by
 induction k with
 |zero=>
  intro g hg;rw[Lib.decDigits,dif_pos (by omega)];refine⟨by simp,?_⟩;simp only[YL,List.nil_append];rw[Nat.mod_eq_of_lt (by omega)];rfl
 |succ k ih=>
  intro g hg;rw[Nat.pow_succ] at hg
  by_cases h10:g<10
  ·rw[Lib.decDigits,dif_pos h10];refine⟨by simp,?_⟩;obtain⟨i1,i2⟩:=ih (g/10) (by omega)
   have e0:g/10=0:=by omega
   rw[e0,Lib.decDigits,dif_pos (by omega)] at i2;rw[YL,e0,<-i2,Nat.mod_eq_of_lt h10];simp only[List.length_cons,List.length_nil,Nat.zero_add,Nat.add_sub_cancel];rw[List.replicate_succ',List.append_assoc,List.append_assoc];rfl
  ·rw[Lib.decDigits,dif_neg h10];obtain⟨i1,i2⟩:=ih (g/10) (by omega)
   refine⟨by rw[List.length_append];simp;omega,?_⟩;rw[YL,<-i2,List.length_append,List.length_singleton,show k+1+1-((Lib.decDigits (g/10)).length+1)=k+1-(Lib.decDigits (g/10)).length by omega,List.append_assoc]
theorem ZfH(x g:Nat)(hx:x≠0)(hg:g<1000000000):QU (g+1000000000*x)=QU x++(List.replicate (9-(Lib.decDigits g).length) 48++Lib.decDigits g):=by
 have h:=ZiW 9 x g hx (by omega);rw[(ZgN 8 g (by omega)).2,<-h]
 congr 1
 omega
end
section
open Go.RowKit Go.Shelf
theorem ZfI{l:List UInt8}(hall:l.all Qq=true)(hz:∀b t,l=b::t->(b==48)=false)(hn:l≠[]):Qf (45::l)=(l,true):=by
 have ht:Lib.trimPrefix (45::l) [45]=l:=by simp[Lib.trimPrefix,Lib.hasPrefix,List.isPrefixOf]
 have hp:Lib.hasPrefix (45::l) [45]=true:=by simp[Lib.hasPrefix,List.isPrefixOf]
 cases l with
 |nil=>exact absurd rfl hn
 |cons b t=>
  unfold Qf;simp only[ht,hall,hp,if_true];rw[List.dropWhile_cons,hz b t rfl];rfl
theorem Qm(n:Int):val (Qe n)=n:=by
 by_cases h0:n=0
 ·subst h0;decide+kernel
 ·have hne:n.natAbs≠0:=by omega
  obtain⟨b,l,e,h1,h2⟩:=ZaQ n.natAbs hne
  rw[YF]
  by_cases hn:n<0
  ·rw[if_pos hn];have h:=ZfI (l:=QU n.natAbs) (Zao _) (fun c t e'=>by rw[e] at e';injection e' with e1 e2;rw[<-e1];exact h1) (by rw[e];simp);unfold val;rw[show([45]++QU n.natAbs:List UInt8)=45::QU n.natAbs from rfl,h];simp only[if_true,ZaS];omega
  ·rw[if_neg hn,List.nil_append];unfold val;rw[ZfG _ hne];simp only[Bool.false_eq_true,if_false,ZaS];omega
theorem VA:val []=0:=by decide+kernel
theorem ZiX{m n:Int}(h:Qe m=Qe n):m=n:=by rw[<-Qm m,h,Qm]
theorem ZiY{n:Int}:Qe n=[]↔n=0:=⟨fun h=>by rw[<-Qm n,h,VA],fun h=>by rw[h];rfl⟩
theorem JS(a:List UInt8):(val a).natAbs<10^a.length:=by
 have h1:=Xs (XE a).1;have h2:=Xv a;have h3:10^(Qf a).1.length<=10^a.length:=Nat.pow_le_pow_right (by omega) h2;unfold val
 split<;>omega
theorem VS{m L:Nat}:m<10^L->(QU m).length<=L:=by
 induction L generalizing m with
 |zero=>intro h;simp at h;subst h;simp[QU]
 |succ L ih=>
  intro h
  by_cases h0:m=0
  ·subst h0;simp[QU]
  ·rw[XC m h0,List.length_append,List.length_singleton];have:=ih (m:=m/10) (by rw[Nat.pow_succ] at h;omega)
   omega
theorem QP{n:Int}{L:Nat}(h:n.natAbs<10^L):(Qe n).length<=L+1:=by
 have:=VS h
 rw[YF,List.length_append]
 split<;>simp<;>omega
structure Fr where
 n:List UInt8
 d:List UInt8
deriving DecidableEq
theorem Fr.ext_{f g:Fr}(h1:f.n=g.n)(h2:f.d=g.d):f=g:=by cases f;cases g;simp_all
def Fr.zero:Fr:=⟨[],[]⟩
def Fr.dv(f:Fr):Int:=if val f.d=0 then 1 else val f.d
theorem Fr.dv_ne(f:Fr):f.dv≠0:=by
 unfold Fr.dv
 split
 ·omega
 ·assumption
def Fr.rat(f:Fr):Rat:=Rat.divInt (val f.n) f.dv
def QJ(q:Rat):Fr:=⟨Qe q.num,if q.den=1 then[] else Qe q.den⟩
theorem Zex(q:Rat):(QJ q).rat=q:=by
 unfold Fr.rat Fr.dv QJ;simp only[Qm]
 by_cases h:q.den=1
 ·rw[if_pos h,if_pos VA];have:=Rat.num_divInt_den q
  rw[h] at this;exact this
 ·rw[if_neg h,Qm,if_neg (by have:=q.den_nz;omega)];exact Rat.num_divInt_den q
theorem ZhD:QJ 0=Fr.zero:=rfl
theorem Zey:Fr.zero.rat=0:=by rw[<-ZhD,Zex]
theorem ZgO(f g:Fr):f.rat-g.rat=Rat.divInt (val f.n*g.dv-val g.n*f.dv) (f.dv*g.dv):=Rat.divInt_sub_divInt _ _ f.dv_ne g.dv_ne
theorem ZgP(n d:Int)(hd:0<d):Int.fdiv n (Int.gcd n d)=(Rat.divInt n d).num:=by
 rw[Rat.num_divInt,Int.sign_eq_one_of_pos hd,Int.one_mul,Int.gcd_comm d n,Int.fdiv_eq_ediv_of_nonneg _ (by omega)]
theorem ZgQ(n d:Int)(hd:0<d):Int.fdiv d (Int.gcd n d)=(Rat.divInt n d).den:=by
 rw[Rat.den_divInt,if_neg (by omega),Int.gcd_comm d n,Int.fdiv_eq_ediv_of_nonneg _ (by omega),Int.natCast_ediv,Int.natAbs_of_nonneg (by omega)]
theorem ZgR(n d:Int)(hd:d≠0):(0:Int)<Int.gcd n d:=by
 have:=Int.gcd_pos_of_ne_zero_right n hd
 omega
theorem ZcU(n d:Int):(Rat.divInt n d).num.natAbs<=n.natAbs:=by
 rw[Rat.num_divInt];have h1:(d.sign*n/(d.gcd n:Int)).natAbs<=(d.sign*n).natAbs:=Int.natAbs_ediv_le_natAbs _ _
 have h2:(d.sign*n).natAbs<=n.natAbs:=by
  rw[Int.natAbs_mul]
  have:d.sign.natAbs<=1:=by
   rcases Int.lt_trichotomy d 0 with h|h|h
   ·rw[Int.sign_eq_neg_one_of_neg h];decide
   ·rw[h];decide
   ·rw[Int.sign_eq_one_of_pos h];decide
  calc d.sign.natAbs*n.natAbs<=1*n.natAbs:=Nat.mul_le_mul_right _ this
   _=n.natAbs:=Nat.one_mul _
 omega
theorem JM(n d:Int)(hd:d≠0):(Rat.divInt n d).den<=d.natAbs:=by
 rw[Rat.den_divInt,if_neg hd];exact Nat.div_le_self _ _
def RB(L:Nat)(q:Rat):Prop:=q.num.natAbs<10^L/\q.den<10^L
theorem RB.more{L M:Nat}{q:Rat}(h:RB L q)(hLM:L<=M):RB M q:=
 ⟨Nat.lt_of_lt_of_le h.1 (Nat.pow_le_pow_right (by omega) hLM),Nat.lt_of_lt_of_le h.2 (Nat.pow_le_pow_right (by omega) hLM)⟩
theorem RB.divInt{L:Nat}{n d:Int}(hn:n.natAbs<10^L)(hd:d.natAbs<10^L)(h0:d≠0):RB L (Rat.divInt n d):=
 ⟨Nat.lt_of_le_of_lt (ZcU n d) hn,Nat.lt_of_le_of_lt (JM n d h0) hd⟩
def Fr.Sz(L:Nat)(f:Fr):Prop:=f.n.length<=L/\f.d.length<=L
theorem Fr.dv_lt{f:Fr}{L:Nat}(h:f.d.length<=L)(hL:1<=L):f.dv.natAbs<10^L:=by
 unfold Fr.dv;have h1:=JS f.d;have h2:10^f.d.length<=10^L:=Nat.pow_le_pow_right (by omega) h;have h3:10^1<=10^L:=Nat.pow_le_pow_right (by omega) hL
 split<;>omega
theorem Yk{a:List UInt8}{L:Nat}(h:a.length<=L):(val a).natAbs<10^L:=
 Nat.lt_of_lt_of_le (JS a) (Nat.pow_le_pow_right (by omega) h)
theorem Xw{a b:Int}{L M:Nat}(ha:a.natAbs<10^L)(hb:b.natAbs<10^M):(a*b).natAbs<10^(L+M):=by
 rw[Int.natAbs_mul,Nat.pow_add];have h0:0<10^M:=Nat.pow_pos (by omega)
 rcases Nat.eq_zero_or_pos a.natAbs with h|h
 ·rw[h,Nat.zero_mul];exact Nat.mul_pos (Nat.pow_pos (by omega)) h0
 ·exact Nat.lt_of_lt_of_le (Nat.mul_lt_mul_of_pos_left hb h) (Nat.mul_le_mul_right _ (Nat.le_of_lt ha))
theorem ZbT{a b:Int}{L:Nat}(ha:a.natAbs<10^L)(hb:b.natAbs<10^L):(a-b).natAbs<10^(L+1):=by
 rw[Nat.pow_succ];omega
theorem Zlm{q:Rat}{L:Nat}(h:RB L q):(QJ q).Sz (L+1):=by
 refine⟨QP h.1,?_⟩;unfold QJ;simp only
 split
 ·simp
 ·exact QP (by simpa using h.2)
theorem Fr.Sz.more{f:Fr}{L M:Nat}(h:f.Sz L)(hLM:L<=M):f.Sz M:=⟨Nat.le_trans h.1 hLM,Nat.le_trans h.2 hLM⟩
theorem ZmQ{f g:Fr}{L:Nat}(hf:f.Sz L)(hg:g.Sz L)(hL:1<=L):RB (L+L+1) (f.rat-g.rat):=by
 rw[ZgO];have h0:=Int.mul_ne_zero f.dv_ne g.dv_ne;refine RB.divInt (ZbT (Xw (Yk hf.1) (Fr.dv_lt hg.2 hL)) (Xw (Yk hg.1) (Fr.dv_lt hf.2 hL))) ?_ h0;exact Nat.lt_of_lt_of_le (Xw (Fr.dv_lt hf.2 hL) (Fr.dv_lt hg.2 hL)) (Nat.pow_le_pow_right (by omega) (by omega))
def Xj(x y:Rat):Int:=if x<y then-1 else if y<x then 1 else 0
def QM(n:Int):Int:=if n<0 then-1 else if 0<n then 1 else 0
theorem Zc7(a c:Int){b d:Int}(hb:0<b)(hd:0<d):Rat.divInt a b<Rat.divInt c d↔a*d<c*b:=by
 have hb':(0:Rat)<(b:Rat):=by exact_mod_cast hb
 have hd':(0:Rat)<(d:Rat):=by exact_mod_cast hd
 rw[Rat.divInt_eq_div,Rat.divInt_eq_div,Rat.div_lt_iff hb',Rat.div_def c,Rat.mul_assoc,Rat.mul_comm _ (b:Rat),<-Rat.mul_assoc,<-Rat.div_def,Rat.lt_div_iff hd']
 exact_mod_cast Iff.rfl
theorem Zez(a c:Int){b d:Int}(hb:0<b)(hd:0<d):Xj (Rat.divInt a b) (Rat.divInt c d)=QM (a*d-c*b):=by
 unfold Xj QM;simp only[Zc7 a c hb hd,Zc7 c a hd hb];have e1:a*d-c*b<0↔a*d<c*b:=by omega
 have e2:0<a*d-c*b↔c*b<a*d:=by omega
 simp only[e1,e2]
theorem ZiZ(x y:Rat):Xj x y=QM (x-y).num:=by
 unfold Xj QM
 have e1:(x-y).num<0↔x<y:=by
  have h:=Rat.num_nonneg (q:=x-y);have h2:=Rat.le_iff_sub_nonneg y x;rw[<-Rat.not_le,h2,<-h];omega
 have e2:0<(x-y).num↔y<x:=by
  have h:=Rat.num_nonneg (q:=y-x);have h2:=Rat.le_iff_sub_nonneg x y;rw[<-Rat.not_le,h2,<-h,<-Rat.neg_sub x y,Rat.neg_num];omega
 simp only[e1,e2]
def Fr.ok(f:Fr):Prop:=f=QJ f.rat
instance (f:Fr):Decidable f.ok:=inferInstanceAs (Decidable (f=QJ f.rat))
end
section
open Go.RowKit Go.Shelf
structure Lot where
 id:List UInt8
 inst:List UInt8
 acq:Int
 opn:Int
 q:List UInt8
 c:List UInt8
 u:List UInt8
deriving DecidableEq
def JT(a:List UInt8):Bool:=decide (a=Qe (val a))
theorem Zln{a:List UInt8}(h:JT a=true):a=Qe (val a):=by simpa[JT] using h
def Vn(c:UInt8):Bool:=(decide (97<=c)&&decide (c<=122))||(decide (48<=c)&&decide (c<=57))||c==95
def Qr(s:List UInt8):Bool:=decide (s≠[])&&decide (s.length<=16)&&s.all Vn
def Zap(s:List UInt8):Bool:=decide (1<=s.length)&&decide (s.length<=4)&&decide (s.head?≠some 48)&&s.all Qq
def idB(s:List UInt8):Bool:=decide (47∈s)&&Qr (s.takeWhile (·!=47))&&Zap ((s.dropWhile (·!=47)).drop 1)
def ZmR(d:Int):Bool:=decide (-25567<=d)&&decide (d<=84005)
structure Lot.Ok (l:Lot):Prop where
 id:idB l.id=true
 inst:Qr l.inst=true
 acq:ZmR l.acq=true
 opn:ZmR l.opn=true
 ord:l.acq<=l.opn
 q:JT l.q=true
 c:JT l.c=true
 q0:0<val l.q
 c0:0<=val l.c
 u:l.u=[]\/l.u=l.q
structure LotsOk (l:List Lot):Prop where
 len:l.length<=1000
 ok:∀x∈l,x.Ok
 ids:(l.map (·.id)).Nodup
def leS(a b:List UInt8):Bool:=Op.bytesLess a b||a==b
def ZgS(l:List Lot)(i:List UInt8):Nat:=l.length-(l.reverse.takeWhile (fun y=> !leS y.inst i)).length
def ZnI(l:List Lot)(x:Lot):List Lot:=l.take (ZgS l x.inst)++x::l.drop (ZgS l x.inst)
end
section
open Go.RowKit Go.Shelf
end
section
open Go.RowKit Go.Shelf
theorem Zbg(l m:List Int):(l++m).sum=l.sum+m.sum:=by
 induction l with
 |nil=>simp
 |cons a l ih=>simp only[List.cons_append,List.sum_cons,ih];omega
end
section
open Go.RowKit Go.Shelf
def ZdN(ws:List (List UInt8)):Int:=(ws.map val).sum
theorem Zi0{ws:List (List UInt8)}{L:Nat}(h:∀x∈ws,x.length<=L):(ZdN ws).natAbs<=ws.length*10^L:=by
 unfold ZdN
 induction ws with
 |nil=>simp
 |cons a l ih=>
  have h1:=ih (fun x hx=>h x (by simp[hx]));have h2:=Yk (h a (by simp));simp only[List.map_cons,List.sum_cons,List.length_cons,Nat.succ_mul];omega
theorem ZeA{ws:List (List UInt8)}{L:Nat}(h:∀x∈ws,x.length<=L)(hn:ws.length<=9999):(Qe (ZdN ws)).length<=L+5:=by
 refine QP (L:=L+4) ?_;have h1:=Zi0 h;have h2:ws.length*10^L<10^4*10^L:=Nat.mul_lt_mul_of_pos_right (by omega) (Nat.pow_pos (by omega));rw[Nat.pow_add,Nat.mul_comm (10^L)];omega
end
section
open Go.RowKit
theorem ZbU(n:Int):Rat.divInt n 1=(n:Rat):=by
 have:=Rat.num_divInt_den (n:Rat)
 simpa using this
end
section
open Go.RowKit Go.Shelf
structure Mp where
 cause:List UInt8
 day:Int
 inst:List UInt8
 other:List UInt8
 ratio:Fr
 share:Fr
 price:Fr
 keep:Bool
deriving DecidableEq
structure Mp.Ok (m:Mp):Prop where
 cause:Qr m.cause=true
 inst:Qr m.inst=true
 other:Qr m.other=true
 day:ZmR m.day=true
 ratio:m.ratio.ok
 share:m.share.ok
 price:m.price.ok
 r0:0<m.ratio.rat
 s0:0<=m.share.rat
 s1:m.share.rat<=1
 p0:0<=m.price.rat
 keep:m.keep=true->m.other≠m.inst
 all:m.keep=false->m.share.rat=1
structure Plan where
 exact:Rat
 parts:Int
 part:Rat
 moved:Int
 taken:Int
 cash:Int
 n:List Int
 m:List Int
 f:List Int
 p:List Int
end
section
open Go.RowKit Go.Shelf
def Plan.mv(x:Plan)(i:Nat):Int:=x.m.getD i 0-x.f.getD i 0
def Plan.rest(x:Plan)(i:Nat):Int:=(((List.range i).filter fun k=>decide (x.n.getD k 0=0)).map x.mv).sum
structure Gain where
 cause:List UInt8
 lot:List UInt8
 inst:List UInt8
 acq:Int
 closed:Int
 q:List UInt8
 proceeds:List UInt8
 cost:List UInt8
 deferred:List UInt8
 replaced:List UInt8
deriving DecidableEq
structure Stp where
 cause:List UInt8
 src:List UInt8
 dst:List UInt8
 q:List UInt8
 made:List UInt8
 cost:List UInt8
deriving DecidableEq
structure Res where
 lots:List Lot
 gains:List Gain
 steps:List Stp
def Res.none:Res:=⟨[],[],[]⟩
theorem Zi1(a:List UInt8):leS a a=true:=by unfold leS;simp
structure CutAt (i:List UInt8) (A B:List Lot):Prop where
 b:∀y∈B,leS y.inst i=false
 a:A=[]\/∃A' y,A=A'++[y]/\leS y.inst i=true
theorem CutAt.at_{i:List UInt8}{A B:List Lot}(h:CutAt i A B):ZgS (A++B) i=A.length:=by
 unfold ZgS
 have e:((A++B).reverse.takeWhile (fun y=> !leS y.inst i))=B.reverse:=by
  rw[List.reverse_append,List.takeWhile_append_of_pos (fun y hy=>by simp[h.b y (by simpa using hy)])]
  have e2:A.reverse.takeWhile (fun y=> !leS y.inst i)=[]:=by
   rcases h.a with rfl|⟨A',y,rfl,hy⟩
   ·rfl
   ·rw[List.reverse_append];simp[hy]
  rw[e2,List.append_nil]
 rw[e];simp
theorem CutAt.put{A B:List Lot}{x:Lot}(h:CutAt x.inst A B):ZnI (A++B) x=A++x::B:=by
 unfold ZnI;rw[h.at_,List.take_left,List.drop_left]
theorem CutAt.next{A B:List Lot}{x:Lot}(h:CutAt x.inst A B):CutAt x.inst (A++[x]) B:=⟨h.b,.inr ⟨A,x,rfl,Zi1 _⟩⟩
theorem LotsOk.put{l:List Lot}{x:Lot}(h:LotsOk l)(hx:x.Ok)(hid:x.id ∉ l.map (·.id))(hl:l.length<1000){A B:List Lot}(e:l=A++B):LotsOk (A++x::B):=by
 subst e;have hp:(A++x::B).Perm (x::(A++B)):=List.perm_middle;refine⟨?_,?_,?_⟩
 ·rw[hp.length_eq];simp at hl ⊢; omega
 ·intro y hy
  rcases List.mem_cons.1 (hp.mem_iff.1 hy) with rfl|hy
  ·exact hx
  ·exact h.ok y hy
 ·rw[(hp.map (·.id)).nodup_iff,List.map_cons,List.nodup_cons];exact⟨hid,h.ids⟩
end
section
open Go.RowKit Go.Shelf
end
section
open Go.RowKit Go.Shelf
theorem ZhE(l:List UInt8)(h:l.all Qq=true):∀acc:Nat,acc*10^l.length+Qh l<1000000000000000000->Lib.parseUint10 acc l=.ok (acc*10^l.length+Qh l):=by
 induction l with
 |nil=>intro acc _;simp[Lib.parseUint10,Qh]
 |cons b l ih=>
  intro acc hb;simp only[List.all_cons,Bool.and_eq_true] at h;have h1:=(QG b).1 h.1
  have e:Qh (b::l)=(b.toNat-48)*10^l.length+Qh l:=by
   have:=Yp [b] l
   simpa[Qh] using this
  rw[e,List.length_cons,Nat.pow_succ] at hb ⊢;have hp:1<=10^l.length:=Nat.pow_pos (by omega)
  have e2:acc*(10^l.length*10)+((b.toNat-48)*10^l.length+Qh l)=(acc*10+(b.toNat-48))*10^l.length+Qh l:=by
   rw[Nat.add_mul,Nat.mul_assoc,Nat.mul_comm 10,Nat.add_assoc]
  rw[e2] at hb ⊢;have h3:acc*10+(b.toNat-48)<=(acc*10+(b.toNat-48))*10^l.length:=Nat.le_mul_of_pos_right _ hp;unfold Lib.parseUint10;rw[if_pos (by omega),if_neg (by omega),if_neg (by omega)];exact ih h.2 _ hb
theorem Zi2{l:List UInt8}(h:l.all Qq=true)(hn:l≠[])(h4:l.length<=17):Lib.atoiAll l=.ok (Qh l:Int):=by
 cases l with
 |nil=>exact absurd rfl hn
 |cons b t=>
  have hb:=h;simp only[List.all_cons,Bool.and_eq_true] at hb;have h1:=(QG b).1 hb.1;rw[Lib.atoiAll_plain b t (by omega) (by omega)];unfold Lib.parseMag;rw[if_neg (by simp)];have hv:=Xs h;have hp:10^(b::t).length<=10^17:=Nat.pow_le_pow_right (by omega) h4;rw[ZhE _ h 0 (by omega)];simp only[Nat.zero_mul,Nat.zero_add];unfold Lib.signless;simp only;rw[if_neg (by omega)]
theorem ZhF{k:Nat}(h1:1<=k)(h2:k<=9999):Zap (QU k)=true:=by
 unfold Zap;obtain⟨b,l,e,hb,_⟩:=ZaQ k (by omega)
 have h3:=VS (m:=k) (L:=4) (by omega);have h4:=ZiU k (by omega)
 have h5:(some b:Option UInt8)≠some 48:=fun e2=>by
  injection e2 with e2;subst e2;exact absurd hb (by decide)
 rw[Zao,decide_eq_true h3,decide_eq_true h4,e,List.head?_cons,decide_eq_true h5];rfl
theorem ZhG(l:List UInt8):Zap l=match Lib.atoiAll l with| .ok v=>decide (1<=v)&&(decide (v<=9999)&&(Lib.itoa v==l))|_=>false:=by
 by_cases h:Zap l=true
 ·have h':=h;unfold Zap at h';simp only[Bool.and_eq_true,decide_eq_true_eq] at h';obtain⟨⟨⟨a1,a2⟩,a3⟩,a4⟩:=h'
  have hne:l≠[]:=fun e=>by rw[e] at a1;simp at a1
  rw[h,Zi2 a4 hne (by omega)]
  have hd:QU (Qh l)=l:=Jv a4 (fun b t e=>by
   rw[e] at a3;simp only[List.head?_cons,ne_eq,Option.some.injEq] at a3;simpa using a3)
  have hv:Qh l<10^4:=Nat.lt_of_lt_of_le (Xs a4) (Nat.pow_le_pow_right (by omega) a2);have h0:Qh l≠0:=fun e=>by rw[e] at hd;exact hne hd.symm
  have hi:Lib.itoa (Qh l:Int)=l:=by
   unfold Lib.itoa;rw[if_neg (by omega)]
   conv=>rhs;rw[<-hd]
   unfold QU;rw[if_neg h0];simp
  simp only[hi,beq_self_eq_true,Bool.and_true];rw[decide_eq_true (show(1:Int)<=(Qh l:Int) by omega),decide_eq_true (show(Qh l:Int)<=9999 by omega)];rfl
 ·have hf:Zap l=false:=by simpa using h
  rw[hf]
  rcases ha:Lib.atoiAll l with v|_|_
  ·simp only
   cases h1:decide (1<=v) with
   |false=>rfl
   |true=>
    cases h2:decide (v<=9999) with
    |false=>rfl
    |true=>
     cases h3:Lib.itoa v==l with
     |false=>rfl
     |true=>
      exfalso
      apply h
      have h3:=eq_of_beq h3;simp only[decide_eq_true_eq] at h1 h2;rw[<-h3];unfold Lib.itoa;rw[if_neg (by omega)];have:=ZhF (k:=v.toNat) (by omega) (by omega)
      unfold QU at this;rw[if_neg (by omega)] at this;simpa using this
  ·rfl
  ·rfl
def YC(s:List UInt8):List UInt8:=s.takeWhile (·!=47)
def VT(s:List UInt8):List UInt8:=(s.dropWhile (·!=47)).drop 1
theorem Zc8(s:List UInt8):(47∈s->Lib.indexByte s 47=((YC s).length:Nat)/\(YC s).length<s.length/\s.take (YC s).length=YC s/\s.drop ((YC s).length+1)=VT s)/\(47 ∉ s->Lib.indexByte s 47= -1/\YC s=s/\VT s=[]):=by
 induction s with
 |nil=>exact⟨fun h=>by simp at h,fun _=>⟨rfl,rfl,rfl⟩⟩
 |cons b l ih=>
  by_cases hb:b=47
  ·subst hb;refine⟨fun _=> ?_,fun h=>absurd (List.mem_cons_self) h⟩;refine⟨rfl,by simp[YC],by simp[YC],?_⟩;simp[YC,VT]
  ·have e1:YC (b::l)=b::YC l:=by unfold YC;rw[List.takeWhile_cons];simp[hb]
   have e2:VT (b::l)=VT l:=by unfold VT;rw[List.dropWhile_cons];simp[hb]
   have hbb:(b==47)=false:=by simpa using hb
   constructor
   ·intro h
    have hl:47∈l:=by
     rcases List.mem_cons.1 h with e|h
     ·exact absurd e.symm hb
     ·exact h
    obtain⟨a1,a2,a3,a4⟩:=ih.1 hl
    refine⟨?_,?_,?_,?_⟩
    ·rw[Lib.indexByte,hbb,a1,e1];simp only[Bool.false_eq_true,if_false];rw[if_neg (by simp)];simp
    ·rw[e1];simp;omega
    ·rw[e1];simp[a3]
    ·rw[e1,e2];simpa using a4
   ·intro h;have hl:47 ∉ l:=fun hm=>h (List.mem_cons_of_mem b hm)
    obtain⟨a1,a2,a3⟩:=ih.2 hl
    refine⟨?_,by rw[e1,a2],by rw[e2,a3]⟩;rw[Lib.indexByte,hbb,a1];rfl
theorem Zi3(s:List UInt8):idB s=(Zap (VT s)&&Qr (YC s)):=by
 unfold idB
 by_cases h:47∈s
 ·rw[decide_eq_true h,Bool.true_and,Bool.and_comm];rfl
 ·rw[decide_eq_false h];have e:VT s=[]:=((Zc8 s).2 h).2.2;rw[e];rfl
end
section
structure Pk where
 lot:List UInt8
 q:List UInt8
deriving DecidableEq
structure Opn where
 other:List UInt8
 ratio:Fr
 price:Fr
 value:Fr
deriving DecidableEq
structure Fct where
 key:List UInt8
 stamp:Int
 cancelled:Bool
 day:Int
 kind:Int
 inst:List UInt8
 other:List UInt8
 cur:List UInt8
 target:List UInt8
 q:List UInt8
 amount:List UInt8
 fee:List UInt8
 price:Fr
 ratio:Fr
 share:Fr
 picks:List Pk
 options:List Opn
 choice:Int
deriving DecidableEq
structure KRow where
 cls:Int
 nums:List (Nat×Bool×Bool)
 more:List Nat
 code:Bool
def QE(k:Int):Option KRow:=
 match k with
 |1|2|6|17|18=>some ⟨2,[(5,true,false)],[2],false⟩
 |3=>some ⟨3,[(4,true,false),(5,false,false),(6,false,false)],[0],false⟩
 |4=>some ⟨3,[(4,true,false),(5,false,false),(6,false,false)],[0,10],false⟩
 |5=>some ⟨1,[(7,true,false)],[0],false⟩
 |7=>some ⟨2,[(4,true,false),(5,true,false)],[1,2],true⟩
 |8=>some ⟨1,[(7,false,false),(8,true,false)],[0],false⟩
 |9=>some ⟨1,[(7,false,false),(8,true,false),(9,false,true)],[0,1],false⟩
 |10=>some ⟨1,[],[0,11],false⟩
 |11=>some ⟨4,[],[0,3,12],false⟩
 |12=>some ⟨3,[(4,true,false),(7,false,false),(8,true,false)],[0,1],false⟩
 |13=>some ⟨1,[(7,true,false)],[0],false⟩
 |14=>some ⟨1,[(7,false,false)],[0],false⟩
 |15=>some ⟨4,[(7,false,false)],[0],false⟩
 |16=>some ⟨4,[(8,true,false)],[1,2],true⟩
 |_=>none
def KRow.has(r:KRow)(i:Nat):Bool:=r.nums.any (fun x=>x.1==i)||r.more.contains i
def Yq(s:List UInt8):Bool:=s.length==3&&s.all fun b=>decide (65<=b.toNat)&&decide (b.toNat<=90)
def XV(a:List UInt8):Nat:=if a.head?=some 45 then a.length-1 else a.length
def Fct.num(f:Fct)(i:Nat):Fr:=
 match i with
 |4=>⟨f.q,[]⟩
 |5=>⟨f.amount,[]⟩
 |6=>⟨f.fee,[]⟩
 |7=>f.price
 |8=>f.ratio
 |9=>f.share
 |_=>⟨[],[]⟩
def Fct.none(f:Fct)(i:Nat):Bool:=
 match i with
 |0=>f.inst==[]
 |1=>f.other==[]
 |2=>f.cur==[]
 |3=>f.target==[]
 |10=>f.picks.isEmpty
 |11=>f.options.isEmpty
 |12=>f.choice==0
 |i=>decide (f.num i=⟨[],[]⟩)
def Qv(pos part:Bool)(f:Fr):Int:=
 if ¬f.ok then 1 else if 40<XV f.n\/40<XV f.d then 4 else if f.rat<0\/(pos=true/\f.rat=0)\/(part=true/\1<f.rat) then 2 else 0
def Xt:List Pk->List Pk->Int->Int×Int
 |[],_,sum=>(0,sum)
 |p::ps,pre,sum=>
  if idB p.lot=false then(23,sum) else if pre.any (fun x=>x.lot==p.lot) then(5,sum)
  else if Qv true false ⟨p.q,[]⟩≠0 then(Qv true false ⟨p.q,[]⟩,sum) else Xt ps (pre++[p]) (sum+val p.q)
def YM(f:Fct):Int:=
 if 64<f.picks.length then 4 else if(Xt f.picks [] 0).1≠0 then(Xt f.picks [] 0).1 else if val f.q<(Xt f.picks [] 0).2 then 15 else 0
def YN(inst:List UInt8):List Opn->Int
 |[]=>0
 |o::os=>
  if o.other≠[]/\Qr o.other=false then 23 else if o.other=inst then 18
  else if Qv false false o.ratio≠0 then Qv false false o.ratio else if Qv false false o.price≠0 then Qv false false o.price else if Qv false false o.value≠0 then Qv false false o.value
  else if decide (o.other≠[])≠decide (o.ratio≠⟨[],[]⟩)\/(o.other=[]/\o.value≠⟨[],[]⟩) then 2 else YN inst os
def VU(f:Fct):Int:=if f.options.length=0 then 11 else if 8<f.options.length then 4 else YN f.inst f.options
def Qy(f:Fct)(r:KRow)(i:Nat):Int:=
 match i with
 |0=>if Qr f.inst=false then 23 else 0
 |1=>if r.code=true then(if Yq f.other=false then 12 else if f.other=f.cur then 18 else 0) else if Qr f.other=false then 23 else if f.other=f.inst then 18 else 0
 |2=>if Yq f.cur=false then 12 else 0
 |3=>if Qr f.target=false then 23 else 0
 |10=>YM f
 |11=>VU f
 |12=>if f.choice<0 then 2 else 0
 |i=>match r.nums.find? (fun x=>x.1==i) with
  |some (_,pos,part)=>Qv pos part (f.num i)
  |none=>0
def YA(f:Fct)(r:KRow)(i:Nat):Nat->Int
 |0=>0
 |n+1=>
  if r.has i=true then(if Qy f r i≠0 then Qy f r i else YA f r (i+1) n)
  else if f.none i=false then 1 else YA f r (i+1) n
def Qt(f:Fct):Int:=
 if Qr f.key=false then 23 else if f.stamp<0 then 2
 else if f.cancelled=true then(if f=⟨f.key,f.stamp,true,0,0,[],[],[],[],[],[],[],⟨[],[]⟩,⟨[],[]⟩,⟨[],[]⟩,[],[],0⟩ then 0 else 1)
 else if f.day< -25567\/84005<f.day then 13
 else match QE f.kind with
  |none=>7
  |some r=>YA f r 0 13
end
section
open Go
def JZ(s t:List UInt8):Int:=if Op.bytesLess s t=true then-1 else if Op.bytesLess t s=true then 1 else 0
def Xr(a b:Int):Int:=if a<b then-1 else if b<a then 1 else 0
def Xe(k:Int):Int:=match QE k with
 |some r=>r.cls
 |none=>0
def QH(f g:Fct):Int:=if Xr f.day g.day≠0 then Xr f.day g.day else if Xr (Xe f.kind) (Xe g.kind)≠0 then Xr (Xe f.kind) (Xe g.kind) else JZ f.key g.key
def Zb8(p:Option Int)(s:Int):Bool:=match p with
 |some t=>decide (s<t)
 |none=>false
def Zbj(p:Option Fct)(f:Fct):Bool:=match p with
 |some g=>decide (0<=QH g f)
 |none=>false
def Zax:Option Int->List Fct->Int
 |_,[]=>0
 |p,f::fs=>if Qt f≠0 then Qt f else if Zb8 p f.stamp=true then 8 else Zax (some f.stamp) fs
def Zbx(l:List Fct):Int:=if 1000<l.length then 4 else Zax none l
def Xx(seen:List (List UInt8)):List Fct->List Fct
 |[]=>[]
 |f::fs=>if seen.contains f.key=true then Xx seen fs else f::Xx (f.key::seen) fs
def Jb(l:List Fct):List Fct:=Xx [] l.reverse
def Xk(f:Fct):Fct:={f with stamp:=0}
def Vr(f:Fct):List Fct->List Fct
 |[]=>[f]
 |g::gs=>if QH f g<0 then f::g::gs else g::Vr f gs
def JN:List Fct->List Fct
 |[]=>[]
 |f::fs=>Vr f (JN fs)
def vwL(l:List Fct):List Fct:=JN (((Jb l).filter fun f=> !f.cancelled).map Xk)
def ofV(l:List Fct)(k:Int):List Fct×Int:=if Zbx l≠0 then([],1) else if k<0\/(l.length:Int)<k then([],2) else(vwL (l.take k.toNat),0)
def Zay:List Fct->List Fct->Int
 |_,[]=>0
 |pre,f::fs=>
  if Qt f≠0 then Qt f else if f.cancelled=true then 19 else if f.stamp≠0 then 1 else if(pre.any fun g=>g.key==f.key)=true then 5
  else if Zbj pre.getLast? f=true then 8 else Zay (pre++[f]) fs
def Xh(v:List Fct):Int:=if 1000<v.length then 4 else Zay [] v
def Vs(v:List Fct)(key:List UInt8):Option Nat:=v.findIdx? fun f=>f.key==key
def Yx(v:List Fct)(d:Int):List Fct×Int:=if Xh v≠0 then([],1) else if d< -25567\/84005<d then([],13) else(v.filter fun f=>decide (f.day<=d),0)
def Zaz(v:List Fct)(f:Fct):List Fct:=if f.cancelled=true then v.filter fun x=>x.key !=f.key else Vr (Xk f) (v.filter fun x=>x.key !=f.key)
def YT(v:List Fct)(f:Fct):List Fct×Int:=if Xh v≠0 then([],1) else if Qt f≠0 then([],Qt f) else if 1000<(Zaz v f).length then([],4) else(Zaz v f,0)
def QX(l:List Fct)(key:List UInt8):Option Fct:=l.reverse.find? fun f=>f.key==key
def QW(a b:List Fct):List Fct:=a.filter fun f=>decide (QX b f.key≠some f)
def Zby(s:List UInt8):List (List UInt8)->List (List UInt8)
 |[]=>[s]
 |t::ts=>if Op.bytesLess s t=true then s::t::ts else if Op.bytesLess t s=true then t::Zby s ts else t::ts
def Jc:List (List UInt8)->List (List UInt8)
 |[]=>[]
 |s::ss=>Zby s (Jc ss)
def ZaZ(a b:List Fct):List (List UInt8)×Int:=if Xh a≠0\/Xh b≠0 then([],1) else(Jc ((QW a b++QW b a).map (·.key)),0)
def XY(p:Int×Bool)(f:Fct):Int×Bool:=if p.2=false\/f.day<p.1 then(f.day,true) else p
def Jd(a b:List Fct):Int×Bool×Int:=if Xh a≠0\/Xh b≠0 then(0,false,1) else(((QW a b++QW b a).foldl XY (0,false)).1,((QW a b++QW b a).foldl XY (0,false)).2,0)
end
section
open Go.RowKit Go.Shelf
theorem Zgi(l:List UInt8)(a b:Nat):(⟨l.toArray⟩:ByteArray).extract a b=⟨((l.take b).drop a).toArray⟩:=by
 apply ByteArray.ext
 rw[ByteArray.data_extract,List.extract_toArray,List.extract_eq_take_drop,List.drop_take]
theorem Jn{l:List UInt8}{k:Nat}{b:UInt8}(h:l[k]?=some b)(hk:k<(⟨l.toArray⟩:ByteArray).size):(⟨l.toArray⟩:ByteArray)[k]=b:=by
 obtain⟨h1,rfl⟩:=List.getElem?_eq_some_iff.1 h
 rfl
theorem Zhp(b:UInt8)(t:List UInt8)(n:Nat)(hn:n=t.length+1):(⟨(b::t).toArray⟩:ByteArray).extract 1 n=⟨t.toArray⟩:=by
 rw[Zgi,hn,List.take_of_length_le (by simp)];rfl
theorem Zil(b:UInt8)(t:List UInt8):Lib.hasPrefix (b::t) [45]=(b==45):=by
 unfold Lib.hasPrefix;simp only[List.isPrefixOf,Bool.and_true];exact Bool.beq_comm
theorem Zky(b:UInt8)(t:List UInt8):Lib.trimPrefix (b::t) [45]=if b==45 then t else b::t:=by
 unfold Lib.trimPrefix;rw[Zil];rfl
theorem Zkz(b:UInt8)(k:Nat)(hk:k<256):((b.toNat:Int)==(k:Int))=(b==UInt8.ofNat k):=by
 rw[Bool.eq_iff_iff];simp only[beq_iff_eq]
 constructor
 ·intro h
  apply UInt8.toNat_inj.1
  rw[UInt8.toNat_ofNat'];omega
 ·intro h;rw[h,UInt8.toNat_ofNat'];omega
theorem Zfi{s:List UInt8}{k:Nat}{b:UInt8}(h:s[k]?=some b)(ha:(s.take k).all Qq=true)(hb:Qq b=true):(s.take (k+1)).all Qq=true:=by
 obtain⟨hk,rfl⟩:=List.getElem?_eq_some_iff.1 h
 rw[List.take_succ_eq_append_getElem hk,List.all_append,ha];simpa using hb
theorem Zl7{s:List UInt8}{k:Nat}{b:UInt8}(h:s[k]?=some b)(hb:¬Qq b=true):s.all Qq=false:=by
 rw[Bool.eq_false_iff];intro h2;rw[List.all_eq_true] at h2;exact hb (h2 b (List.mem_of_getElem? h))
theorem Xo(a:List UInt8)(w:World)(ha:a.length<=1000000000):
 Calls Tryz.prog 183 #[S a] w fun e w'=>e=.returned (.tuple #[S (Qf a).1,.bool (Qf a).2])/\w=w':=by
 have HDG:=jq (show Qf a=if(Lib.trimPrefix a [45]).all Qq then((Lib.trimPrefix a [45]).dropWhile (·==48),Lib.hasPrefix a [45]&& !((Lib.trimPrefix a [45]).dropWhile (·==48)).isEmpty) else([],false) from rfl);have hl:=YK a [45];obtain⟨s,hs⟩:∃s,Lib.trimPrefix a [45]=s:=⟨_,rfl⟩
 obtain⟨neg,hn⟩:∃neg,Lib.hasPrefix a [45]=neg:=⟨_,rfl⟩
 rw[hs,hn] at HDG;rw[hs] at hl;have HS:=jq hs;have HN:=jq hn;clear hs hn;unfold S at*
 go_enter Tryz.func183,Tryz.ntmps183
 go_upto_region 2 with (fail)
 go_cut [5] (fun v wc=>v=.bool neg/\wc=w)
 case first=>
  cases a with
  |nil=>
   go_wp2
   go_meet
   exact⟨by rw[<-HN.out];rfl,rfl⟩
  |cons b t=>
   have h0:0<(⟨(b::t).toArray⟩:ByteArray).size:=by rw[Qk];simp
   have hb:(⟨(b::t).toArray⟩:ByteArray)[0]=b:=Jn rfl h0
   go_wp2
   go_meet
   exact⟨by rw[<-HN.out,Zil];exact congrArg Value.bool (Zkz b 45 (by omega)),rfl⟩
 case rest=>
 obtain⟨rfl,rfl⟩:=hcut
 go_upto_if 16 with (fail)
 go_cut [4] (fun v w1=>v=.string ⟨s.toArray⟩/\w1=wc)
 case first=>
  cases a with
  |nil=>
   obtain rfl:false=neg:=HN.out;obtain rfl:[]=s:=HS.out
   go_wp2
   go_meet
   exact⟨rfl,rfl⟩
  |cons b t=>
   have hlen:(⟨(b::t).toArray⟩:ByteArray).size=t.length+1:=by rw[Qk];rfl
   have HLE:=jq hlen
   cases neg with
   |true=>
    have HT:=jq (show t=s by have h1:=HS.out;have h2:=HN.out;rw[Zil] at h2;rw[Zky,h2] at h1;exact h1)
    go_wp2
    go_meet
    exact⟨by rw[<-HT.out,Zhp b t _ rfl],rfl⟩
   |false=>
    have HT:=jq (show b::t=s by have h1:=HS.out;have h2:=HN.out;rw[Zil] at h2;rw[Zky,h2] at h1;exact h1);clear hlen
    go_wp2
    go_meet
    exact⟨by rw[<-HT.out],rfl⟩
 case rest=>
 obtain⟨rfl,rfl⟩:=hcut
 have hsl:s.length<=1000000000:=by omega
 clear hl ha HS HN
 go_wp2
 go_loop [6] (fun i=>∃k:Nat,k<=s.length/\i=.int .i64 k/\Hid ((s.take k).all Qq=true)) (fun i=>s.length-(intOf i).toNat)
 case atStart=>exact⟨0,Nat.zero_le _,rfl,by show _=_;rfl⟩
 case round=>
  obtain⟨k,hk,rfl,HA⟩:=hrel
  by_cases hlt:k<s.length
  ·obtain⟨b,hb⟩:∃b,s[k]?=some b:=⟨_,List.getElem?_eq_getElem hlt⟩
   have hks:k<(⟨s.toArray⟩:ByteArray).size:=by rw[Qk];exact hlt
   have hbk:(⟨s.toArray⟩:ByteArray)[k]=b:=Jn hb hks;have HB:=jq hb;clear hb
   by_cases hd:Qq b=true
   ·have HST:=jq (Zfi HB.out HA.out hd);obtain⟨h1,h2⟩:=(QG b).1 hd
    clear hd
    go_wp2
    all_goals first
     |(go_round
       case rel=>exact⟨k+1,by omega,by go_num,HST⟩
       case measure=>simp[intOf];omega)
     |(exfalso;omega)
   ·have HF:=jq (Zl7 HB.out hd)
    have hnd:b.toNat<48\/57<b.toNat:=by
     rw[QG] at hd;omega
    clear hd
    rcases hnd with hnd|hnd
    all_goals
     go_wp2
     go_ret2
     rw[HDG.out,HF.out];exact⟨rfl,rfl⟩
  ·have HALL:=jq (show s.all Qq=true by have:=HA.out;rwa [List.take_of_length_le (by omega)] at this);rw[HALL.out] at HDG;simp only[if_true] at HDG
   go_wp2
   go_loop [4] (fun v=>∃t:List UInt8,v=.string ⟨t.toArray⟩/\t.length<=1000000000/\Hid (s.dropWhile (·==48)=t.dropWhile (·==48))) (fun v=>match v with| .string b=>b.size|_=>0)
   case atStart=>exact⟨s,rfl,hsl,by show _=_;rfl⟩
   case round=>
    obtain⟨t,rfl,htl,HD⟩:=hrel
    cases t with
    |nil=>
     cases neg<;>(
      go_wp2
      go_ret2
      rw[HDG.out,HD.out];exact⟨rfl,rfl⟩)
    |cons b t=>
     have hlen:(⟨(b::t).toArray⟩:ByteArray).size=t.length+1:=by rw[Qk];rfl
     have h0:0<(⟨(b::t).toArray⟩:ByteArray).size:=by rw[Qk];simp
     have hb:(⟨(b::t).toArray⟩:ByteArray)[0]=b:=Jn rfl h0;have HU:=jq (show((b.toNat:Int)==48)=(b==48) from Zkz b 48 (by omega))
     cases hz:(b==48) with
     |true=>
      rw[hz] at HU;have hu:=HU.out;have HD2:=jq (show s.dropWhile (·==48)=t.dropWhile (·==48) by rw[HD.out,List.dropWhile_cons,hz];rfl);have HTM:=jq (Zhp b t (t.length+1) rfl);clear hz
      go_wp2
      go_round
      case rel=>exact⟨t,by rw[HTM.out],by simp at htl;omega,HD2⟩
      case measure=>rw[HTM.out];show(⟨t.toArray⟩:ByteArray).size<(⟨(b::t).toArray⟩:ByteArray).size;rw[Qk,Qk];simp
     |false=>
      rw[hz] at HU;have hu:=HU.out;have HD2:=jq (show s.dropWhile (·==48)=b::t by rw[HD.out,List.dropWhile_cons,hz];rfl);have hte3:(!(⟨(b::t).toArray⟩:ByteArray).toList.isEmpty)=true:=by rw[Lib.toList_data];rfl
      clear hz
      cases neg<;>(
       go_wp2
       go_ret2
       rw[HDG.out,HD2.out];exact⟨rfl,rfl⟩)
theorem Zl8(a:List UInt8):Qh (Qf a).1=(val a).natAbs:=by
 unfold val
 split<;>omega
theorem YX(a:List UInt8)(w:World)(ha:a.length<=1000000000):Calls Tryz.prog 182 #[S a] w fun e w'=>e=.returned (S (Qe (val a)))/\w=w':=by
 have H:=jq (Xo a w ha);have hl:=Xv a;have HC:=jq (show Qe (val a)=if(Qf a).2 then 45::(Qf a).1 else(Qf a).1 by rw[<-ZhC];rfl);have hl2:(Qf a).1.length<=1000000000:=by omega
 clear hl ha;generalize Qe (val a)=res at*;generalize (Qf a).1=t at*;generalize (Qf a).2=neg at*;unfold S at*
 cases neg with
 |true=>
  have hsz:(⟨t.toArray⟩:ByteArray).size<=1000000000:=by rw[Qk];exact hl2
  go_enter Tryz.func182,Tryz.ntmps182
  go_wp2_with (go_at_call 183;refine H.out.mono ?_;rintro e w1 ⟨rfl,rfl⟩)
  go_ret
  rw[HC.out];exact⟨congrArg (fun b=>Ending.returned (.string b)) (ByteArray.mk_append_mk [45] t),rfl⟩
 |false=>
  go_enter Tryz.func182,Tryz.ntmps182
  go_wp2_with (go_at_call 183;refine H.out.mono ?_;rintro e w1 ⟨rfl,rfl⟩)
  go_ret
  rw[HC.out];exact⟨by simp,rfl⟩
theorem Zfj(a:List UInt8)(w:World)(ha:a.length<=1000000000):Calls Tryz.prog 187 #[S a] w fun e w'=>e=.returned (S (Qe (-val a)))/\w=w':=by
 have H:=jq (Xo a w ha);have hl:=Xv a;have hl2:(Qf a).1.length<=1000000000:=by omega
 have HD:=jq (Zev a);have HN:=jq (ZdM a)
 have HC:=jq (show Qe (-val a)=if(Qf a).2||((Qf a).1==[]) then(Qf a).1 else 45::(Qf a).1 by
  rw[YF,Int.natAbs_neg,<-HD.out,HN.out]
  by_cases h1:val a<0
  ·rw[if_neg (by omega)];simp[h1]
  ·by_cases h0:val a=0
   ·have:(Qf a).1=[]:=by rw[HD.out,h0];rfl
    rw[this];simp[h0]
   ·have:(Qf a).1≠[]:=fun h=>by
     have h2:=Zl8 a;rw[h] at h2;simp[Qh] at h2
     omega
    rw[if_pos (by omega)];simp[h1,this])
 clear hl ha HD HN;generalize Qe (-val a)=res at*;generalize (Qf a).1=t at*;generalize (Qf a).2=neg at*;unfold S at*
 have hsz:(⟨t.toArray⟩:ByteArray).size<=1000000000:=by rw[Qk];exact hl2
 cases neg with
 |true=>
  go_enter Tryz.func187,Tryz.ntmps187
  go_wp2_with (go_at_call 183;refine H.out.mono ?_;rintro e w1 ⟨rfl,rfl⟩)
  go_ret
  rw[HC.out];exact⟨by simp,rfl⟩
 |false=>
  cases ht:(t==[]) with
  |true=>
   rw[ht] at HC;obtain rfl:t=[]:=eq_of_beq ht;clear ht;go_enter Tryz.func187,Tryz.ntmps187
   go_wp2_with (go_at_call 183;refine H.out.mono ?_;rintro e w1 ⟨rfl,rfl⟩)
   go_ret
   rw[HC.out];exact⟨by simp,rfl⟩
  |false=>
   rw[ht] at HC
   have hte:t.isEmpty=false:=by cases t with|nil=>simp at ht|cons _ _=>rfl
   have hte2:(⟨t.toArray⟩:ByteArray).toList.isEmpty=false:=by rw[Lib.toList_data];simpa using hte
   go_enter Tryz.func187,Tryz.ntmps187
   go_wp2_with (go_at_call 183;refine H.out.mono ?_;rintro e w1 ⟨rfl,rfl⟩)
   go_ret
   rw[HC.out];exact⟨congrArg (fun b=>Ending.returned (.string b)) (ByteArray.mk_append_mk [45] t),rfl⟩
def QC(a:List UInt8):Int×Bool:=if(Qf a).1.length<=17 then(val a,true) else(0,false)
theorem Zim{s:List UInt8}{k:Nat}{b:UInt8}(h:s[k]?=some b):Qh (s.take (k+1))=10*Qh (s.take k)+(b.toNat-48):=by
 obtain⟨hk,rfl⟩:=List.getElem?_eq_some_iff.1 h
 rw[List.take_succ_eq_append_getElem hk,YE]
theorem Zeb{s:List UInt8}(hd:s.all Qq=true)(k:Nat)(hk:k<=17):Qh (s.take k)<100000000000000000:=by
 have h:(s.take k).all Qq=true:=by
  rw[List.all_eq_true] at hd ⊢;exact fun x hx=>hd x (List.mem_of_mem_take hx)
 have h1:=Xs h;have h2:10^(s.take k).length<=10^17:=Nat.pow_le_pow_right (by omega) (by rw[List.length_take];omega);omega
theorem Xi(a:List UInt8)(w:World)(ha:a.length<=1000000000):Calls Tryz.prog 188 #[S a] w fun e w'=>e=.returned (.tuple #[.int .i64 (QC a).1,.bool (QC a).2])/\w=w':=by
 have H:=jq (Xo a w ha);have hl:=Xv a;have HSH:=jq (show QC a=if(Qf a).1.length<=17 then((if(Qf a).2 then-(Qh (Qf a).1:Int) else Qh (Qf a).1),true) else(0,false) from rfl);have HDG:=jq (XE a).1;have hl2:(Qf a).1.length<=1000000000:=by omega
 clear hl ha;generalize QC a=res at*;generalize (Qf a).1=s at*;generalize (Qf a).2=neg at*;unfold S at*
 by_cases h17:s.length<=17
 ·rw[if_pos h17] at HSH;clear hl2;go_enter Tryz.func188,Tryz.ntmps188
  go_wp2_with (go_at_call 183;refine H.out.mono ?_;rintro e w1 ⟨rfl,rfl⟩)
  go_loop [6,7] (fun n i=>∃(k m:Nat),k<=s.length/\i=.int .i64 k/\n=.int .i64 m/\m<100000000000000000/\Hid (m=Qh (s.take k))) (fun _ i=>s.length-(intOf i).toNat)
  case atStart=>exact⟨0,0,Nat.zero_le _,rfl,rfl,by omega,by show _=_;rfl⟩
  case round=>
   obtain⟨k,m,hk,rfl,rfl,hm,HM⟩:=hrel
   by_cases hlt:k<s.length
   ·obtain⟨b,hb⟩:∃b,s[k]?=some b:=⟨_,List.getElem?_eq_getElem hlt⟩
    have hks:k<(⟨s.toArray⟩:ByteArray).size:=by rw[Qk];exact hlt
    have hbk:(⟨s.toArray⟩:ByteArray)[k]=b:=Jn hb hks;have hdb:=(QG b).1 (by have:=HDG.out;rw[List.all_eq_true] at this;exact this b (List.mem_of_getElem? hb));obtain⟨h1,h2⟩:=hdb
    have HST:=jq (Zim hb);have hm2:=Zeb HDG.out (k+1) (by omega);rw[HST.out,<-HM.out] at hm2;clear hb
    go_wp2
    go_round
    case rel=>exact⟨k+1,10*m+(b.toNat-48),by omega,by go_num,by rw[show((10*m+(b.toNat-48):Nat):Int)=10*(m:Int)+((b.toNat:Int)-48) by omega],hm2,by show _=_;rw[HST.out,<-HM.out]⟩
    case measure=>simp[intOf];omega
   ·have HV:=jq (show m=Qh s by have:=HM.out;rwa [List.take_of_length_le (by omega)] at this)
    cases neg with
    |true=>
     go_wp2
     go_ret2
     rw[HSH.out,<-HV.out];exact⟨by simp,rfl⟩
    |false=>
     go_wp2
     go_ret2
     rw[HSH.out,<-HV.out];exact⟨by simp,rfl⟩
 ·rw[if_neg h17] at HSH;go_enter Tryz.func188,Tryz.ntmps188
  go_wp2_with (go_at_call 183;refine H.out.mono ?_;rintro e w1 ⟨rfl,rfl⟩)
  go_ret2
  rw[HSH.out];exact⟨rfl,rfl⟩
end
section
open Go.RowKit Go.Shelf
theorem ZkG(w:World):Calls Tryz.prog 158 #[.int .i64 0] w fun e w'=>e=.returned (S (Qe 0))/\w=w':=by
 unfold S;go_enter Tryz.func158,Tryz.ntmps158
 go_wp2
 go_ret
 exact⟨rfl,rfl⟩
def Zni(N:Nat)(s m:Value):Prop:=∃(k:Nat) (t:List UInt8),m=.int .i64 (-(k:Int))/\(k:Int)<=9223372036854775807/\s=.string ⟨t.toArray⟩/\QU N=QU k++t
theorem Zmb(n:Nat)(h0:0<n)(h1:(n:Int)<=9223372036854775807)(w:World):
 Calls Tryz.prog 158 #[.int .i64 (-(n:Int))] w fun e w'=>e=.returned (S (Qe (-(n:Int))))/\w=w':=by
 have hne:(-(n:Int)==0)=false:=by simp;omega
 have hng: -(n:Int)<0:=by omega
 have HT:=jq (show Qe (-(n:Int))=45::QU n by rw[YF,if_pos (by omega),Int.natAbs_neg,Int.natAbs_natCast];rfl);have HL:=jq (Zet n (by omega));unfold S;go_enter Tryz.func158,Tryz.ntmps158
 go_wp2
 go_loop [3,4,5] (fun s m _=>Zni n s m) (fun _ m _=>(-(intOf m)).toNat)
 case atStart=>exact⟨n,[],rfl,h1,rfl,by simp⟩
 case round=>
  obtain⟨k,t,rfl,hk,rfl,hd⟩:=hrel
  have HD:=jq hd;clear hd;have htl:t.length<=19:=by have h1:=HL.out;rw[HD.out,List.length_append] at h1;omega
  by_cases hk0:k=0
  ·subst hk0;have htz:(⟨t.toArray⟩:ByteArray).size<=19:=by rw[Qk];exact htl
   have hz0:(-((0:Nat):Int) !=0)=false:=rfl
   go_wp2
   all_goals first
    |(exfalso;omega)
    |(go_ret
      refine⟨?_,rfl⟩;rw[HT.out,HD.out];exact congrArg (fun b=>Ending.returned (.string b)) (ByteArray.mk_append_mk [45] t))
  ·have hkb:(-(k:Int) !=0)=true:=by simp;omega
   have HS:=jq (XC k hk0);have key:(k:Int)%10<=0->(48+ -((k:Int)%10))=48+(k:Int)%10:=fun h=>by omega
   have HKEY:=jq key;clear key
   go_wp2
   all_goals first
    |(exfalso
      have:=YB k
      omega)
    |(exfalso
      have:=YB k
      have h2:=HKEY.out (by assumption);rw[<-h2] at this;omega)
    |(go_round
      case rel=>
       refine⟨k/10,UInt8.ofNat (48+k%10)::t,by rw[show((k/10:Nat):Int)=(k:Int)/10 by omega],by omega,?_,?_⟩
       ·first
         |(rw[Zan];exact congrArg Value.string (Vl [UInt8.ofNat (48+k%10)] t))
         |(rw[HKEY.out (by assumption),Zan];exact congrArg Value.string (Vl [UInt8.ofNat (48+k%10)] t))
       ·rw[HD.out,HS.out,List.append_assoc];rfl
      case measure=>simp[intOf];omega)
theorem ZaL(n:Int)(h0: -9223372036854775807<=n)(h1:n<=9223372036854775807)(w:World):Calls Tryz.prog 158 #[.int .i64 n] w fun e w'=>e=.returned (S (Qe n))/\w=w':=by
 rcases Int.lt_trichotomy n 0 with h|h|h
 ·have:=Zmb n.natAbs (by omega) (by omega) w
  rwa [show-((n.natAbs:Nat):Int)=n by omega] at this
 ·subst h;exact ZkG w
 ·exact Zma n h h1 w
end
section
open Go
def Yv(key:List UInt8)(stamp day:Int):Fct:=⟨key,stamp,false,day,1,[],[],[85,83,68],[],[],[53],[],⟨[],[]⟩,⟨[],[]⟩,⟨[],[]⟩,[],[],0⟩
def ZmA:Fct:=⟨[98],4,true,0,0,[],[],[],[],[],[],[],⟨[],[]⟩,⟨[],[]⟩,⟨[],[]⟩,[],[],0⟩
def aw4:List Fct:=[Yv [97] 1 5,Yv [98] 2 3,Yv [97] 3 2,ZmA]
def awX:List Fct:=[Yv [98] 0 3,Yv [97] 0 5]
def awY:List Fct:=[Yv [97] 0 2,Yv [98] 0 3]
def awZ:List Fct:=[Yv [97] 0 2]
theorem Znp:ofV aw4 2=(awX,0):=by decide+kernel
theorem Znq:ofV aw4 3=(awY,0):=by decide+kernel
theorem Znr:ofV aw4 4=(awZ,0):=by decide+kernel
theorem Zk3:Jd awX awY=(2,true,0):=by decide+kernel
theorem Zns:ZaZ awX awY=([[97]],0):=by decide+kernel
end
end Go.Proofs.YtmfjmngebldanaaGreatDoor
