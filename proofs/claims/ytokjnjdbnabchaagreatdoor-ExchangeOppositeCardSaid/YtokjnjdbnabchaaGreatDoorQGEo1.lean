/- M1, FR, Lp0. -/
import Derived.Test.YtokjnjdbnabchaaGreatDoorQGEo18
namespace Go.Proofs.YtokjnjdbnabchaaGreatDoor
open Go.RowKit Go.Shelf
section
def gv:List Nat->Nat
 |[]=>0
 |x::xs=>x+1000000000*gv xs
def Gs(xs:List Nat):Prop:=∀x∈xs,x<1000000000
def Nz(xs:List Nat):Prop:=xs.getLast?≠some 0
structure Mag (xs:List Nat) (v:Nat):Prop where
 gs:Gs xs
 nz:Nz xs
 val:gv xs=v
theorem XV(xs ys:List Nat):gv (xs++ys)=gv xs+1000000000^xs.length*gv ys:=by
 induction xs with
 |nil=>simp[gv]
 |cons x xs ih=>
  rw[List.cons_append,gv,ih,gv,List.length_cons,Nat.pow_succ,Nat.mul_add,Nat.add_assoc,<-Nat.mul_assoc,Nat.mul_comm (1000000000^xs.length) 1000000000]
theorem XK(xs:List Nat)(g:Nat):gv (xs++[g])=gv xs+1000000000^xs.length*g:=by rw[XV];simp[gv]
theorem Gs.nil:Gs []:=fun x hx=>by cases hx
theorem Gs.snoc{xs:List Nat}{g:Nat}(h:Gs xs)(hg:g<1000000000):Gs (xs++[g]):=fun x hx=>by
 rcases List.mem_append.1 hx with h1|h1
 ·exact h x h1
 ·simp at h1;rw[h1];exact hg
theorem Gs.take{xs:List Nat}(h:Gs xs)(k:Nat):Gs (xs.take k):=fun x hx=>h x (List.mem_of_mem_take hx)
theorem Gs.at_{xs:List Nat}(h:Gs xs){i g:Nat}(hi:xs[i]?=some g):g<1000000000:=h g (List.mem_of_getElem? hi)
theorem XL{xs:List Nat}(h:Gs xs):gv xs<1000000000^xs.length:=by
 induction xs with
 |nil=>simp[gv]
 |cons x xs ih=>
  have h1:=ih (fun y hy=>h y (by simp[hy]));have h2:=h x (by simp);rw[gv,List.length_cons,Nat.pow_succ];omega
theorem Vy{xs:List Nat}(hn:xs≠[])(h:Nz xs):1000000000^(xs.length-1)<=gv xs:=by
 obtain⟨ys,g,rfl⟩:∃ys g,xs=ys++[g]:=⟨xs.dropLast,xs.getLast hn,(List.dropLast_concat_getLast hn).symm⟩
 have hg:g≠0:=fun e=>h (by rw[e];simp)
 rw[XK,List.length_append,List.length_singleton,Nat.add_sub_cancel];exact Nat.le_trans (Nat.le_mul_of_pos_right _ (by omega)) (Nat.le_add_left _ _)
theorem XM(xs:List Nat)(i:Nat)(g:Nat)(h:xs[i]?=some g):gv (xs.take (i+1))=gv (xs.take i)+1000000000^i*g:=by
 obtain⟨hi,rfl⟩:=List.getElem?_eq_some_iff.1 h
 rw[List.take_succ_eq_append_getElem hi,XK,List.length_take,Nat.min_eq_left (by omega)]
theorem QU(xs:List Nat)(i:Nat)(g:Nat)(h:xs[i]?=some g):gv (xs.drop i)=g+1000000000*gv (xs.drop (i+1)):=by
 obtain⟨hi,rfl⟩:=List.getElem?_eq_some_iff.1 h
 rw[List.drop_eq_getElem_cons hi,gv]
theorem Xp(xs:List Nat)(i:Nat)(hi:i<=xs.length):gv xs=gv (xs.take i)+1000000000^i*gv (xs.drop i):=by
 have:=XV (xs.take i) (xs.drop i)
 rw[List.take_append_drop,List.length_take,Nat.min_eq_left hi] at this;exact this
theorem Mag.zero:Mag [] 0:=⟨Gs.nil,by unfold Nz;simp,rfl⟩
theorem Mag.nil_iff{xs:List Nat}{v:Nat}(h:Mag xs v):xs=[]↔v=0:=by
 constructor
 ·rintro rfl;exact h.val.symm
 ·intro hv
  by_cases hn:xs=[]
  ·exact hn
  ·have:=Vy hn h.nz
   rw[h.val,hv] at this;have:=Nat.pow_pos (n:=xs.length-1) (show 0<1000000000 by decide)
   omega
theorem Mag.len{xs:List Nat}{v k:Nat}(h:Mag xs v)(hv:v<1000000000^k):xs.length<=k:=by
 by_cases hn:xs=[]
 ·rw[hn];simp
 ·have h1:=Vy hn h.nz;rw[h.val] at h1;have h2:=Nat.lt_of_le_of_lt h1 hv;have:=(Nat.pow_lt_pow_iff_right (show 1<1000000000 by decide)).1 h2
  omega
theorem ZbI{α:Type}{P:List α->Prop}(h0:P [])(h1:∀l b,P l->P (l++[b]))(l:List α):P l:=by
 have:∀l:List α,P l.reverse:=by
  intro l
  induction l with
  |nil=>exact h0
  |cons a l ih=>rw[List.reverse_cons];exact h1 _ _ ih
 have h:=this l.reverse
 rwa [List.reverse_reverse] at h
def Qg(l:List UInt8):Nat:=l.foldl (fun n b=>10*n+(b.toNat-48)) 0
theorem YY(l:List UInt8)(n:Nat):l.foldl (fun n b=>10*n+(b.toNat-48)) n=n*10^l.length+Qg l:=by
 induction l generalizing n with
 |nil=>simp[Qg]
 |cons b l ih=>
  have e:Qg (b::l)=(10*0+(b.toNat-48))*10^l.length+Qg l:=by unfold Qg;rw[List.foldl_cons];exact ih _
  rw[List.foldl_cons,ih,e,List.length_cons,Nat.pow_succ,Nat.add_mul,Nat.mul_comm 10 n,Nat.mul_assoc,Nat.mul_comm 10 (10^l.length),Nat.mul_zero,Nat.zero_add,Nat.add_assoc]
theorem Yn(l l':List UInt8):Qg (l++l')=Qg l*10^l'.length+Qg l':=by
 unfold Qg;rw[List.foldl_append,YY];rfl
theorem Vz(l:List UInt8)(b:UInt8):Qg (l++[b])=10*Qg l+(b.toNat-48):=by
 rw[Yn,Nat.mul_comm];simp[Qg]
theorem Xi(b:UInt8):Qx b=true↔48<=b.toNat/\b.toNat<=57:=by
 unfold Qx;simp[UInt8.le_iff_toNat_le]
theorem Vi{l:List UInt8}:l.all Qx=true->Qg l<10^l.length:=by
 refine ZbI (P:=fun l=>l.all Qx=true->Qg l<10^l.length) ?_ ?_ l
 ·intro _;simp[Qg]
 ·intro l b ih h;rw[List.all_append] at h;simp only[List.all_cons,List.all_nil,Bool.and_true,Bool.and_eq_true] at h;have h1:=ih h.1;have h2:=(Xi b).1 h.2;rw[Vz,List.length_append,List.length_singleton,Nat.pow_succ];omega
theorem ZeT(b:UInt8)(h:Qx b=true):UInt8.ofNat (48+(b.toNat-48))=b:=by
 have h2:=(Xi b).1 h;rw[show 48+(b.toNat-48)=b.toNat by omega];simp
theorem YD{b:UInt8}{l:List UInt8}(h:(b::l).all Qx=true)(hb:(b==48)=false):Qg (b::l)≠0:=by
 have h1:Qx b=true:=by simp at h;exact h.1
 have h2:=(Xi b).1 h1
 have h3:b.toNat≠48:=fun e=>by
  have:b=48:=UInt8.toNat_inj.1 e
  rw[this] at hb;simp at hb
 unfold Qg;rw[List.foldl_cons,YY];have:=Nat.pow_pos (n:=l.length) (show 0<10 by decide)
 have:0<(10*0+(b.toNat-48))*10^l.length:=Nat.mul_pos (by omega) this
 omega
theorem VA{l:List UInt8}:l.all Qx=true->(∀b t,l=b::t->(b==48)=false)->QD (Qg l)=l:=by
 refine ZbI (P:=fun l=>l.all Qx=true->(∀b t,l=b::t->(b==48)=false)->QD (Qg l)=l) ?_ ?_ l
 ·intro _ _;simp[Qg,QD]
 ·intro l b ih h hz;have h':=h;rw[List.all_append] at h;simp only[List.all_cons,List.all_nil,Bool.and_true,Bool.and_eq_true] at h;have h2:=(Xi b).1 h.2
  have hne:Qg (l++[b])≠0:=by
   cases l with
   |nil=>exact YD h' (hz b [] rfl)
   |cons c t=>exact YD h' (hz c (t++[b]) rfl)
  rw[Xh _ hne,Vz,show(10*Qg l+(b.toNat-48))/10=Qg l by omega,show(10*Qg l+(b.toNat-48))%10=b.toNat-48 by omega,ZeT b h.2,ih h.1 (fun c t e=>hz c (t++[b]) (by rw[e];rfl))]
theorem Zav(m:Nat):Qg (QD m)=m:=by
 induction m using Nat.strongRecOn with
 |_ m ih=>
  by_cases h:m=0
  ·subst h;rfl
  ·rw[Xh m h,Vz,ih (m/10) (by omega)];have:(UInt8.ofNat (48+m%10)).toNat=48+m%10:=by simp;omega
   omega
def val(a:List UInt8):Int:=if(Qf a).2 then-(Qg (Qf a).1:Int) else Qg (Qf a).1
theorem Vj(a:List UInt8):(Qf a).1.all Qx=true/\(∀b t,(Qf a).1=b::t->(b==48)=false)/\((Qf a).2=true->(Qf a).1≠[]):=by
 unfold Qf;simp only
 split
 ·rename_i h
  refine⟨?_,?_,?_⟩
  ·rw[List.all_eq_true] at h ⊢;exact fun x hx=>h x ((List.dropWhile_sublist _).subset hx)
  ·intro b t e;have e':(Lib.trimPrefix a [45]).dropWhile (·==48)=b::t:=e;clear e;have e:=e';have hne:(Lib.trimPrefix a [45]).dropWhile (·==48)≠[]:=by rw[e];simp
   have:=Yk (·==48) (Lib.trimPrefix a [45]) hne
   simp only[e,List.head_cons] at this;exact this
  ·intro hh;simp only[Bool.and_eq_true,Bool.not_eq_true'] at hh;intro e;have e':(Lib.trimPrefix a [45]).dropWhile (·==48)=[]:=e;rw[e'] at hh;simp at hh
 ·simp
theorem ZeU(a:List UInt8):(Qf a).1=QD (val a).natAbs:=by
 obtain⟨h1,h2,_⟩:=Vj a
 unfold val
 split
 ·rw[Int.natAbs_neg,Int.natAbs_natCast,VA h1 h2]
 ·rw[Int.natAbs_natCast,VA h1 h2]
theorem Zdt(a:List UInt8):(Qf a).2=decide (val a<0):=by
 obtain⟨h1,h2,h3⟩:=Vj a
 unfold val
 cases hn:(Qf a).2 with
 |false=>simp
 |true=>
  have hne:=h3 hn
  have hv:Qg (Qf a).1≠0:=by
   cases he:(Qf a).1 with
   |nil=>exact absurd he hne
   |cons b t=>rw[he] at h1;exact YD h1 (h2 b t he)
  simp;omega
theorem YE(n:Int):Qb n=(if n<0 then[45] else[])++QD n.natAbs:=by
 unfold Qb QD
 by_cases h:n=0
 ·subst h;rfl
 ·rw[if_neg h,if_neg (by omega:n.natAbs≠0)]
  split<;>rfl
theorem Zd6(a:List UInt8):Za4 a=Qb (val a):=by
 unfold Za4;rw[Zdt,ZeU,YE]
 by_cases h:val a<0
 ·simp[h]
 ·simp[h]
def ZbJ:Nat->Nat->List UInt8
 |0,_=>[]
 |k+1,g=>ZbJ k (g/10)++[UInt8.ofNat (48+g%10)]
theorem ZeV(k:Nat):∀(x g:Nat),x≠0->g<10^k->QD (10^k*x+g)=QD x++ZbJ k g:=by
 induction k with
 |zero=>intro x g hx hg;simp at hg;subst hg;simp[ZbJ]
 |succ k ih=>
  intro x g hx hg;rw[Nat.pow_succ] at hg
  have e1:10^(k+1)*x+g=10*(10^k*x+g/10)+g%10:=by
   rw[Nat.pow_succ,Nat.mul_add,<-Nat.mul_assoc,Nat.mul_comm 10 (10^k)];omega
  have hne:10^(k+1)*x+g≠0:=by
   have:=Nat.mul_pos (Nat.pow_pos (n:=k+1) (show 0<10 by decide)) (Nat.pos_of_ne_zero hx)
   omega
  rw[Xh _ hne,e1,show(10*(10^k*x+g/10)+g%10)/10=10^k*x+g/10 by omega,show(10*(10^k*x+g/10)+g%10)%10=g%10 by omega,ih x (g/10) hx (by omega),ZbJ,List.append_assoc]
theorem Zdu(k:Nat):∀g:Nat,g<10^(k+1)->(Lib.decDigits g).length<=k+1/\List.replicate (k+1-(Lib.decDigits g).length) 48++Lib.decDigits g=ZbJ (k+1) g:=by
 induction k with
 |zero=>
  intro g hg;rw[Lib.decDigits,dif_pos (by omega)];refine⟨by simp,?_⟩;simp only[ZbJ,List.nil_append];rw[Nat.mod_eq_of_lt (by omega)];rfl
 |succ k ih=>
  intro g hg;rw[Nat.pow_succ] at hg
  by_cases h10:g<10
  ·rw[Lib.decDigits,dif_pos h10];refine⟨by simp,?_⟩;obtain⟨i1,i2⟩:=ih (g/10) (by omega)
   have e0:g/10=0:=by omega
   rw[e0,Lib.decDigits,dif_pos (by omega)] at i2;rw[ZbJ,e0,<-i2,Nat.mod_eq_of_lt h10];simp only[List.length_cons,List.length_nil,Nat.zero_add,Nat.add_sub_cancel];rw[List.replicate_succ',List.append_assoc,List.append_assoc];rfl
  ·rw[Lib.decDigits,dif_neg h10];obtain⟨i1,i2⟩:=ih (g/10) (by omega)
   refine⟨by rw[List.length_append];simp;omega,?_⟩;rw[ZbJ,<-i2,List.length_append,List.length_singleton,show k+1+1-((Lib.decDigits (g/10)).length+1)=k+1-(Lib.decDigits (g/10)).length by omega,List.append_assoc]
theorem ZcI(x g:Nat)(hx:x≠0)(hg:g<1000000000):QD (g+1000000000*x)=QD x++(List.replicate (9-(Lib.decDigits g).length) 48++Lib.decDigits g):=by
 have h:=ZeV 9 x g hx (by omega);rw[(Zdu 8 g (by omega)).2,<-h]
 congr 1
 omega
end
section
theorem ZcJ{l:List UInt8}(hall:l.all Qx=true)(hz:∀b t,l=b::t->(b==48)=false)(hn:l≠[]):Qf (45::l)=(l,true):=by
 have ht:Lib.trimPrefix (45::l) [45]=l:=by simp[Lib.trimPrefix,Lib.hasPrefix,List.isPrefixOf]
 have hp:Lib.hasPrefix (45::l) [45]=true:=by simp[Lib.hasPrefix,List.isPrefixOf]
 cases l with
 |nil=>exact absurd rfl hn
 |cons b t=>
  unfold Qf;simp only[ht,hall,hp,if_true];rw[List.dropWhile_cons,hz b t rfl];rfl
theorem Qi(n:Int):val (Qb n)=n:=by
 by_cases h0:n=0
 ·subst h0;decide+kernel
 ·have hne:n.natAbs≠0:=by omega
  obtain⟨b,l,e,h1,h2⟩:=Vx n.natAbs hne
  rw[YE]
  by_cases hn:n<0
  ·rw[if_pos hn];have h:=ZcJ (l:=QD n.natAbs) (Jy _) (fun c t e'=>by rw[e] at e';injection e' with e1 e2;rw[<-e1];exact h1) (by rw[e];simp);unfold val;rw[show([45]++QD n.natAbs:List UInt8)=45::QD n.natAbs from rfl,h];simp only[if_true,Zav];omega
  ·rw[if_neg hn,List.nil_append];unfold val;rw[ZcH _ hne];simp only[Bool.false_eq_true,if_false,Zav];omega
theorem YF:val []=0:=by decide+kernel
theorem ZeW{m n:Int}(h:Qb m=Qb n):m=n:=by rw[<-Qi m,h,Qi]
theorem ZbK{n:Int}:Qb n=[]↔n=0:=⟨fun h=>by rw[<-Qi n,h,YF],fun h=>by rw[h];rfl⟩
theorem VB(a:List UInt8):(val a).natAbs<10^a.length:=by
 have h1:=Vi (Vj a).1;have h2:=Vh a;have h3:10^(Qf a).1.length<=10^a.length:=Nat.pow_le_pow_right (by omega) h2;unfold val
 split<;>omega
theorem VU{m L:Nat}:m<10^L->(QD m).length<=L:=by
 induction L generalizing m with
 |zero=>intro h;simp at h;subst h;simp[QD]
 |succ L ih=>
  intro h
  by_cases h0:m=0
  ·subst h0;simp[QD]
  ·rw[Xh m h0,List.length_append,List.length_singleton];have:=ih (m:=m/10) (by rw[Nat.pow_succ] at h;omega)
   omega
theorem Qk{n:Int}{L:Nat}(h:n.natAbs<10^L):(Qb n).length<=L+1:=by
 have:=VU h
 rw[YE,List.length_append]
 split<;>simp<;>omega
structure Fr where
 n:List UInt8
 d:List UInt8
deriving DecidableEq
theorem Fr.ext_{f g:Fr}(h1:f.n=g.n)(h2:f.d=g.d):f=g:=by cases f;cases g;simp_all
def Fr.zero:Fr:=⟨[],[]⟩
def Fr.dv(f:Fr):Int:=if val f.d=0 then 1 else val f.d
theorem Fr.dv_ne(f:Fr):f.dv≠0:=by
 unfold Fr.dv
 split
 ·omega
 ·assumption
def Fr.rat(f:Fr):Rat:=Rat.divInt (val f.n) f.dv
def Qd(q:Rat):Fr:=⟨Qb q.num,if q.den=1 then[] else Qb q.den⟩
theorem QR(q:Rat):(Qd q).rat=q:=by
 unfold Fr.rat Fr.dv Qd;simp only[Qi]
 by_cases h:q.den=1
 ·rw[if_pos h,if_pos YF];have:=Rat.num_divInt_den q
  rw[h] at this;exact this
 ·rw[if_neg h,Qi,if_neg (by have:=q.den_nz;omega)];exact Rat.num_divInt_den q
theorem Zd7:Qd 0=Fr.zero:=rfl
theorem ZbL:Fr.zero.rat=0:=by rw[<-Zd7,QR]
theorem Zdv(f g:Fr):f.rat-g.rat=Rat.divInt (val f.n*g.dv-val g.n*f.dv) (f.dv*g.dv):=Rat.divInt_sub_divInt _ _ f.dv_ne g.dv_ne
theorem ZgE(f g:Fr):f.rat*g.rat=Rat.divInt (val f.n*val g.n) (f.dv*g.dv):=Rat.divInt_mul_divInt _ _
theorem ZgF(f g:Fr):f.rat/g.rat=Rat.divInt (val f.n*g.dv) (f.dv*val g.n):=by
 unfold Fr.rat;rw[Rat.div_def,Rat.inv_divInt,Rat.divInt_mul_divInt]
theorem ZbM(f:Fr):f.rat=0↔val f.n=0:=by
 unfold Fr.rat
 constructor
 ·intro h;have h2:Rat.divInt (val f.n) f.dv=Rat.divInt 0 1:=by rw[h];rfl
  rw[Rat.divInt_eq_divInt_iff f.dv_ne (by omega)] at h2;omega
 ·intro h;rw[h,Rat.zero_divInt]
theorem ZgG(n d:Int)(hd:0<d):Int.fdiv n (Int.gcd n d)=(Rat.divInt n d).num:=by
 rw[Rat.num_divInt,Int.sign_eq_one_of_pos hd,Int.one_mul,Int.gcd_comm d n,Int.fdiv_eq_ediv_of_nonneg _ (by omega)]
theorem ZgH(n d:Int)(hd:0<d):Int.fdiv d (Int.gcd n d)=(Rat.divInt n d).den:=by
 rw[Rat.den_divInt,if_neg (by omega),Int.gcd_comm d n,Int.fdiv_eq_ediv_of_nonneg _ (by omega),Int.natCast_ediv,Int.natAbs_of_nonneg (by omega)]
theorem ZgI(n d:Int)(hd:d≠0):(0:Int)<Int.gcd n d:=by
 have:=Int.gcd_pos_of_ne_zero_right n hd
 omega
theorem Zae(n d:Int):(Rat.divInt n d).num.natAbs<=n.natAbs:=by
 rw[Rat.num_divInt];have h1:(d.sign*n/(d.gcd n:Int)).natAbs<=(d.sign*n).natAbs:=Int.natAbs_ediv_le_natAbs _ _
 have h2:(d.sign*n).natAbs<=n.natAbs:=by
  rw[Int.natAbs_mul]
  have:d.sign.natAbs<=1:=by
   rcases Int.lt_trichotomy d 0 with h|h|h
   ·rw[Int.sign_eq_neg_one_of_neg h];decide
   ·rw[h];decide
   ·rw[Int.sign_eq_one_of_pos h];decide
  calc d.sign.natAbs*n.natAbs<=1*n.natAbs:=Nat.mul_le_mul_right _ this
   _=n.natAbs:=Nat.one_mul _
 omega
theorem Zaf(n d:Int)(hd:d≠0):(Rat.divInt n d).den<=d.natAbs:=by
 rw[Rat.den_divInt,if_neg hd];exact Nat.div_le_self _ _
def RB(L:Nat)(q:Rat):Prop:=q.num.natAbs<10^L/\q.den<10^L
theorem RB.more{L M:Nat}{q:Rat}(h:RB L q)(hLM:L<=M):RB M q:=
 ⟨Nat.lt_of_lt_of_le h.1 (Nat.pow_le_pow_right (by omega) hLM),Nat.lt_of_lt_of_le h.2 (Nat.pow_le_pow_right (by omega) hLM)⟩
theorem RB.divInt{L:Nat}{n d:Int}(hn:n.natAbs<10^L)(hd:d.natAbs<10^L)(h0:d≠0):RB L (Rat.divInt n d):=
 ⟨Nat.lt_of_le_of_lt (Zae n d) hn,Nat.lt_of_le_of_lt (Zaf n d h0) hd⟩
def Fr.Sz(L:Nat)(f:Fr):Prop:=f.n.length<=L/\f.d.length<=L
theorem Fr.dv_lt{f:Fr}{L:Nat}(h:f.d.length<=L)(hL:1<=L):f.dv.natAbs<10^L:=by
 unfold Fr.dv;have h1:=VB f.d;have h2:10^f.d.length<=10^L:=Nat.pow_le_pow_right (by omega) h;have h3:10^1<=10^L:=Nat.pow_le_pow_right (by omega) hL
 split<;>omega
theorem QV{a:List UInt8}{L:Nat}(h:a.length<=L):(val a).natAbs<10^L:=
 Nat.lt_of_lt_of_le (VB a) (Nat.pow_le_pow_right (by omega) h)
theorem Qq{a b:Int}{L M:Nat}(ha:a.natAbs<10^L)(hb:b.natAbs<10^M):(a*b).natAbs<10^(L+M):=by
 rw[Int.natAbs_mul,Nat.pow_add];have h0:0<10^M:=Nat.pow_pos (by omega)
 rcases Nat.eq_zero_or_pos a.natAbs with h|h
 ·rw[h,Nat.zero_mul];exact Nat.mul_pos (Nat.pow_pos (by omega)) h0
 ·exact Nat.lt_of_lt_of_le (Nat.mul_lt_mul_of_pos_left hb h) (Nat.mul_le_mul_right _ (Nat.le_of_lt ha))
theorem Jz{a b:Int}{L:Nat}(ha:a.natAbs<10^L)(hb:b.natAbs<10^L):(a-b).natAbs<10^(L+1):=by
 rw[Nat.pow_succ];omega
theorem ZgJ{q:Rat}{L:Nat}(h:RB L q):(Qd q).Sz (L+1):=by
 refine⟨Qk h.1,?_⟩;unfold Qd;simp only
 split
 ·simp
 ·exact Qk (by simpa using h.2)
theorem ZhM{f:Fr}{L:Nat}(h:f.Sz L)(hL:1<=L):RB L f.rat:=RB.divInt (QV h.1) (Fr.dv_lt h.2 hL) f.dv_ne
theorem Fr.Sz.more{f:Fr}{L M:Nat}(h:f.Sz L)(hLM:L<=M):f.Sz M:=⟨Nat.le_trans h.1 hLM,Nat.le_trans h.2 hLM⟩
theorem ZhX{f g:Fr}{L:Nat}(hf:f.Sz L)(hg:g.Sz L)(hL:1<=L):RB (L+L+1) (f.rat-g.rat):=by
 rw[Zdv];have h0:=Int.mul_ne_zero f.dv_ne g.dv_ne;refine RB.divInt (Jz (Qq (QV hf.1) (Fr.dv_lt hg.2 hL)) (Qq (QV hg.1) (Fr.dv_lt hf.2 hL))) ?_ h0;exact Nat.lt_of_lt_of_le (Qq (Fr.dv_lt hf.2 hL) (Fr.dv_lt hg.2 hL)) (Nat.pow_le_pow_right (by omega) (by omega))
def VC(x y:Rat):Int:=if x<y then-1 else if y<x then 1 else 0
def QO(n:Int):Int:=if n<0 then-1 else if 0<n then 1 else 0
theorem ZeX(x y:Rat):VC x y=QO (x-y).num:=by
 unfold VC QO
 have e1:(x-y).num<0↔x<y:=by
  have h:=Rat.num_nonneg (q:=x-y);have h2:=Rat.le_iff_sub_nonneg y x;rw[<-Rat.not_le,h2,<-h];omega
 have e2:0<(x-y).num↔y<x:=by
  have h:=Rat.num_nonneg (q:=y-x);have h2:=Rat.le_iff_sub_nonneg x y;rw[<-Rat.not_le,h2,<-h,<-Rat.neg_sub x y,Rat.neg_num];omega
 simp only[e1,e2]
def Fr.ok(f:Fr):Prop:=f=Qd f.rat
instance (f:Fr):Decidable f.ok:=inferInstanceAs (Decidable (f=Qd f.rat))
end
section
structure Lot where
 id:List UInt8
 inst:List UInt8
 acq:Int
 opn:Int
 q:List UInt8
 c:List UInt8
 u:List UInt8
deriving DecidableEq
def ZiB(a:List UInt8):Bool:=decide (a=Qb (val a))
def YU(c:UInt8):Bool:=(decide (97<=c)&&decide (c<=122))||(decide (48<=c)&&decide (c<=57))||c==95
def Qu(s:List UInt8):Bool:=decide (s≠[])&&decide (s.length<=16)&&s.all YU
def ZbN(s:List UInt8):Bool:=decide (1<=s.length)&&decide (s.length<=4)&&decide (s.head?≠some 48)&&s.all Qx
def idB(s:List UInt8):Bool:=decide (47∈s)&&Qu (s.takeWhile (·!=47))&&ZbN ((s.dropWhile (·!=47)).drop 1)
def ZhY(d:Int):Bool:=decide (-25567<=d)&&decide (d<=84005)
structure Lot.Ok (l:Lot):Prop where
 id:idB l.id=true
 inst:Qu l.inst=true
 acq:ZhY l.acq=true
 opn:ZhY l.opn=true
 ord:l.acq<=l.opn
 q:ZiB l.q=true
 c:ZiB l.c=true
 q0:0<val l.q
 c0:0<=val l.c
 u:l.u=[]\/l.u=l.q
structure LotsOk (l:List Lot):Prop where
 len:l.length<=1000
 ok:∀x∈l,x.Ok
 ids:(l.map (·.id)).Nodup
def leS(a b:List UInt8):Bool:=Op.bytesLess a b||a==b
def Zdw(l:List Lot)(i:List UInt8):Nat:=l.length-(l.reverse.takeWhile (fun y=> !leS y.inst i)).length
def ZiC(l:List Lot)(x:Lot):List Lot:=l.take (Zdw l x.inst)++x::l.drop (Zdw l x.inst)
end
end Go.Proofs.YtokjnjdbnabchaaGreatDoor
