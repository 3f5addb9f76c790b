/- M1, FR, Lp0, D0, A0, W0, Dv, Lp1, Lp2, Lp3, Lt0. -/
import Derived.Test.YtokjnjdbnabchaaGreatDoorQGEp15
import Derived.Lib.AtoiAllCases
import Derived.Lib.IndexLaws
namespace Go.Proofs.YtokjnjdbnabchaaGreatDoor
section
open Go.RowKit Go.Shelf
def gv:List Nat->Nat
 |[]=>0
 |x::xs=>x+1000000000*gv xs
def Gs(xs:List Nat):Prop:=∀x∈xs,x<1000000000
def Nz(xs:List Nat):Prop:=xs.getLast?≠some 0
structure Mag (xs:List Nat) (v:Nat):Prop where
 gs:Gs xs
 nz:Nz xs
 val:gv xs=v
theorem Ya(xs ys:List Nat):gv (xs++ys)=gv xs+1000000000^xs.length*gv ys:=by
 induction xs with
 |nil=>simp[gv]
 |cons x xs ih=>
  rw[List.cons_append,gv,ih,gv,List.length_cons,Nat.pow_succ,Nat.mul_add,Nat.add_assoc,<-Nat.mul_assoc,Nat.mul_comm (1000000000^xs.length) 1000000000]
theorem XO(xs:List Nat)(g:Nat):gv (xs++[g])=gv xs+1000000000^xs.length*g:=by rw[Ya];simp[gv]
theorem Gs.nil:Gs []:=fun x hx=>by cases hx
theorem Gs.snoc{xs:List Nat}{g:Nat}(h:Gs xs)(hg:g<1000000000):Gs (xs++[g]):=fun x hx=>by
 rcases List.mem_append.1 hx with h1|h1
 ·exact h x h1
 ·simp at h1;rw[h1];exact hg
theorem Gs.take{xs:List Nat}(h:Gs xs)(k:Nat):Gs (xs.take k):=fun x hx=>h x (List.mem_of_mem_take hx)
theorem Gs.at_{xs:List Nat}(h:Gs xs){i g:Nat}(hi:xs[i]?=some g):g<1000000000:=h g (List.mem_of_getElem? hi)
theorem XP{xs:List Nat}(h:Gs xs):gv xs<1000000000^xs.length:=by
 induction xs with
 |nil=>simp[gv]
 |cons x xs ih=>
  have h1:=ih (fun y hy=>h y (by simp[hy]));have h2:=h x (by simp);rw[gv,List.length_cons,Nat.pow_succ];omega
theorem VI{xs:List Nat}(hn:xs≠[])(h:Nz xs):1000000000^(xs.length-1)<=gv xs:=by
 obtain⟨ys,g,rfl⟩:∃ys g,xs=ys++[g]:=⟨xs.dropLast,xs.getLast hn,(List.dropLast_concat_getLast hn).symm⟩
 have hg:g≠0:=fun e=>h (by rw[e];simp)
 rw[XO,List.length_append,List.length_singleton,Nat.add_sub_cancel];exact Nat.le_trans (Nat.le_mul_of_pos_right _ (by omega)) (Nat.le_add_left _ _)
theorem XQ(xs:List Nat)(i:Nat)(g:Nat)(h:xs[i]?=some g):gv (xs.take (i+1))=gv (xs.take i)+1000000000^i*g:=by
 obtain⟨hi,rfl⟩:=List.getElem?_eq_some_iff.1 h
 rw[List.take_succ_eq_append_getElem hi,XO,List.length_take,Nat.min_eq_left (by omega)]
theorem QY(xs:List Nat)(i:Nat)(g:Nat)(h:xs[i]?=some g):gv (xs.drop i)=g+1000000000*gv (xs.drop (i+1)):=by
 obtain⟨hi,rfl⟩:=List.getElem?_eq_some_iff.1 h
 rw[List.drop_eq_getElem_cons hi,gv]
theorem Xr(xs:List Nat)(i:Nat)(hi:i<=xs.length):gv xs=gv (xs.take i)+1000000000^i*gv (xs.drop i):=by
 have:=Ya (xs.take i) (xs.drop i)
 rw[List.take_append_drop,List.length_take,Nat.min_eq_left hi] at this;exact this
theorem Mag.zero:Mag [] 0:=⟨Gs.nil,by unfold Nz;simp,rfl⟩
theorem Mag.nil_iff{xs:List Nat}{v:Nat}(h:Mag xs v):xs=[]↔v=0:=by
 constructor
 ·rintro rfl;exact h.val.symm
 ·intro hv
  by_cases hn:xs=[]
  ·exact hn
  ·have:=VI hn h.nz
   rw[h.val,hv] at this;have:=Nat.pow_pos (n:=xs.length-1) (show 0<1000000000 by decide)
   omega
theorem Mag.len{xs:List Nat}{v k:Nat}(h:Mag xs v)(hv:v<1000000000^k):xs.length<=k:=by
 by_cases hn:xs=[]
 ·rw[hn];simp
 ·have h1:=VI hn h.nz;rw[h.val] at h1;have h2:=Nat.lt_of_le_of_lt h1 hv;have:=(Nat.pow_lt_pow_iff_right (show 1<1000000000 by decide)).1 h2
  omega
theorem Zb6{α:Type}{P:List α->Prop}(h0:P [])(h1:∀l b,P l->P (l++[b]))(l:List α):P l:=by
 have:∀l:List α,P l.reverse:=by
  intro l
  induction l with
  |nil=>exact h0
  |cons a l ih=>rw[List.reverse_cons];exact h1 _ _ ih
 have h:=this l.reverse
 rwa [List.reverse_reverse] at h
def Qg(l:List UInt8):Nat:=l.foldl (fun n b=>10*n+(b.toNat-48)) 0
theorem Vk(l:List UInt8)(n:Nat):l.foldl (fun n b=>10*n+(b.toNat-48)) n=n*10^l.length+Qg l:=by
 induction l generalizing n with
 |nil=>simp[Qg]
 |cons b l ih=>
  have e:Qg (b::l)=(10*0+(b.toNat-48))*10^l.length+Qg l:=by unfold Qg;rw[List.foldl_cons];exact ih _
  rw[List.foldl_cons,ih,e,List.length_cons,Nat.pow_succ,Nat.add_mul,Nat.mul_comm 10 n,Nat.mul_assoc,Nat.mul_comm 10 (10^l.length),Nat.mul_zero,Nat.zero_add,Nat.add_assoc]
theorem Yw(l l':List UInt8):Qg (l++l')=Qg l*10^l'.length+Qg l':=by
 unfold Qg;rw[List.foldl_append,Vk];rfl
theorem VJ(l:List UInt8)(b:UInt8):Qg (l++[b])=10*Qg l+(b.toNat-48):=by
 rw[Yw,Nat.mul_comm];simp[Qg]
theorem Xj(b:UInt8):Qx b=true↔48<=b.toNat/\b.toNat<=57:=by
 unfold Qx;simp[UInt8.le_iff_toNat_le]
theorem Vw{l:List UInt8}:l.all Qx=true->Qg l<10^l.length:=by
 refine Zb6 (P:=fun l=>l.all Qx=true->Qg l<10^l.length) ?_ ?_ l
 ·intro _;simp[Qg]
 ·intro l b ih h;rw[List.all_append] at h;simp only[List.all_cons,List.all_nil,Bool.and_true,Bool.and_eq_true] at h;have h1:=ih h.1;have h2:=(Xj b).1 h.2;rw[VJ,List.length_append,List.length_singleton,Nat.pow_succ];omega
theorem Ze7(b:UInt8)(h:Qx b=true):UInt8.ofNat (48+(b.toNat-48))=b:=by
 have h2:=(Xj b).1 h;rw[show 48+(b.toNat-48)=b.toNat by omega];simp
theorem YL{b:UInt8}{l:List UInt8}(h:(b::l).all Qx=true)(hb:(b==48)=false):Qg (b::l)≠0:=by
 have h1:Qx b=true:=by simp at h;exact h.1
 have h2:=(Xj b).1 h1
 have h3:b.toNat≠48:=fun e=>by
  have:b=48:=UInt8.toNat_inj.1 e
  rw[this] at hb;simp at hb
 unfold Qg;rw[List.foldl_cons,Vk];have:=Nat.pow_pos (n:=l.length) (show 0<10 by decide)
 have:0<(10*0+(b.toNat-48))*10^l.length:=Nat.mul_pos (by omega) this
 omega
theorem VK{l:List UInt8}:l.all Qx=true->(∀b t,l=b::t->(b==48)=false)->QD (Qg l)=l:=by
 refine Zb6 (P:=fun l=>l.all Qx=true->(∀b t,l=b::t->(b==48)=false)->QD (Qg l)=l) ?_ ?_ l
 ·intro _ _;simp[Qg,QD]
 ·intro l b ih h hz;have h':=h;rw[List.all_append] at h;simp only[List.all_cons,List.all_nil,Bool.and_true,Bool.and_eq_true] at h;have h2:=(Xj b).1 h.2
  have hne:Qg (l++[b])≠0:=by
   cases l with
   |nil=>exact YL h' (hz b [] rfl)
   |cons c t=>exact YL h' (hz c (t++[b]) rfl)
  rw[Xi _ hne,VJ,show(10*Qg l+(b.toNat-48))/10=Qg l by omega,show(10*Qg l+(b.toNat-48))%10=b.toNat-48 by omega,Ze7 b h.2,ih h.1 (fun c t e=>hz c (t++[b]) (by rw[e];rfl))]
theorem ZaM(m:Nat):Qg (QD m)=m:=by
 induction m using Nat.strongRecOn with
 |_ m ih=>
  by_cases h:m=0
  ·subst h;rfl
  ·rw[Xi m h,VJ,ih (m/10) (by omega)];have:(UInt8.ofNat (48+m%10)).toNat=48+m%10:=by simp;omega
   omega
def val(a:List UInt8):Int:=if(Qf a).2 then-(Qg (Qf a).1:Int) else Qg (Qf a).1
theorem Vx(a:List UInt8):(Qf a).1.all Qx=true/\(∀b t,(Qf a).1=b::t->(b==48)=false)/\((Qf a).2=true->(Qf a).1≠[]):=by
 unfold Qf;simp only
 split
 ·rename_i h
  refine⟨?_,?_,?_⟩
  ·rw[List.all_eq_true] at h ⊢;exact fun x hx=>h x ((List.dropWhile_sublist _).subset hx)
  ·intro b t e;have e':(Lib.trimPrefix a [45]).dropWhile (·==48)=b::t:=e;clear e;have e:=e';have hne:(Lib.trimPrefix a [45]).dropWhile (·==48)≠[]:=by rw[e];simp
   have:=Yu (·==48) (Lib.trimPrefix a [45]) hne
   simp only[e,List.head_cons] at this;exact this
  ·intro hh;simp only[Bool.and_eq_true,Bool.not_eq_true'] at hh;intro e;have e':(Lib.trimPrefix a [45]).dropWhile (·==48)=[]:=e;rw[e'] at hh;simp at hh
 ·simp
theorem Ze8(a:List UInt8):(Qf a).1=QD (val a).natAbs:=by
 obtain⟨h1,h2,_⟩:=Vx a
 unfold val
 split
 ·rw[Int.natAbs_neg,Int.natAbs_natCast,VK h1 h2]
 ·rw[Int.natAbs_natCast,VK h1 h2]
theorem ZdH(a:List UInt8):(Qf a).2=decide (val a<0):=by
 obtain⟨h1,h2,h3⟩:=Vx a
 unfold val
 cases hn:(Qf a).2 with
 |false=>simp
 |true=>
  have hne:=h3 hn
  have hv:Qg (Qf a).1≠0:=by
   cases he:(Qf a).1 with
   |nil=>exact absurd he hne
   |cons b t=>rw[he] at h1;exact YL h1 (h2 b t he)
  simp;omega
theorem YM(n:Int):Qb n=(if n<0 then[45] else[])++QD n.natAbs:=by
 unfold Qb QD
 by_cases h:n=0
 ·subst h;rfl
 ·rw[if_neg h,if_neg (by omega:n.natAbs≠0)]
  split<;>rfl
theorem Zek(a:List UInt8):Zbl a=Qb (val a):=by
 unfold Zbl;rw[ZdH,Ze8,YM]
 by_cases h:val a<0
 ·simp[h]
 ·simp[h]
def Zb7:Nat->Nat->List UInt8
 |0,_=>[]
 |k+1,g=>Zb7 k (g/10)++[UInt8.ofNat (48+g%10)]
theorem Ze9(k:Nat):∀(x g:Nat),x≠0->g<10^k->QD (10^k*x+g)=QD x++Zb7 k g:=by
 induction k with
 |zero=>intro x g hx hg;simp at hg;subst hg;simp[Zb7]
 |succ k ih=>
  intro x g hx hg;rw[Nat.pow_succ] at hg
  have e1:10^(k+1)*x+g=10*(10^k*x+g/10)+g%10:=by
   rw[Nat.pow_succ,Nat.mul_add,<-Nat.mul_assoc,Nat.mul_comm 10 (10^k)];omega
  have hne:10^(k+1)*x+g≠0:=by
   have:=Nat.mul_pos (Nat.pow_pos (n:=k+1) (show 0<10 by decide)) (Nat.pos_of_ne_zero hx)
   omega
  rw[Xi _ hne,e1,show(10*(10^k*x+g/10)+g%10)/10=10^k*x+g/10 by omega,show(10*(10^k*x+g/10)+g%10)%10=g%10 by omega,ih x (g/10) hx (by omega),Zb7,List.append_assoc]
theorem ZdI(k:Nat):∀g:Nat,g<10^(k+1)->(Lib.decDigits g).length<=k+1/\List.replicate (k+1-(Lib.decDigits g).length) 48++Lib.decDigits g=Zb7 (k+1) g:=by
 induction k with
 |zero=>
  intro g hg;rw[Lib.decDigits,dif_pos (by omega)];refine⟨by simp,?_⟩;simp only[Zb7,List.nil_append];rw[Nat.mod_eq_of_lt (by omega)];rfl
 |succ k ih=>
  intro g hg;rw[Nat.pow_succ] at hg
  by_cases h10:g<10
  ·rw[Lib.decDigits,dif_pos h10];refine⟨by simp,?_⟩;obtain⟨i1,i2⟩:=ih (g/10) (by omega)
   have e0:g/10=0:=by omega
   rw[e0,Lib.decDigits,dif_pos (by omega)] at i2;rw[Zb7,e0,<-i2,Nat.mod_eq_of_lt h10];simp only[List.length_cons,List.length_nil,Nat.zero_add,Nat.add_sub_cancel];rw[List.replicate_succ',List.append_assoc,List.append_assoc];rfl
  ·rw[Lib.decDigits,dif_neg h10];obtain⟨i1,i2⟩:=ih (g/10) (by omega)
   refine⟨by rw[List.length_append];simp;omega,?_⟩;rw[Zb7,<-i2,List.length_append,List.length_singleton,show k+1+1-((Lib.decDigits (g/10)).length+1)=k+1-(Lib.decDigits (g/10)).length by omega,List.append_assoc]
theorem Zc4(x g:Nat)(hx:x≠0)(hg:g<1000000000):QD (g+1000000000*x)=QD x++(List.replicate (9-(Lib.decDigits g).length) 48++Lib.decDigits g):=by
 have h:=Ze9 9 x g hx (by omega);rw[(ZdI 8 g (by omega)).2,<-h]
 congr 1
 omega
end
section
open Go.RowKit Go.Shelf
theorem Zc5{l:List UInt8}(hall:l.all Qx=true)(hz:∀b t,l=b::t->(b==48)=false)(hn:l≠[]):Qf (45::l)=(l,true):=by
 have ht:Lib.trimPrefix (45::l) [45]=l:=by simp[Lib.trimPrefix,Lib.hasPrefix,List.isPrefixOf]
 have hp:Lib.hasPrefix (45::l) [45]=true:=by simp[Lib.hasPrefix,List.isPrefixOf]
 cases l with
 |nil=>exact absurd rfl hn
 |cons b t=>
  unfold Qf;simp only[ht,hall,hp,if_true];rw[List.dropWhile_cons,hz b t rfl];rfl
theorem Qh(n:Int):val (Qb n)=n:=by
 by_cases h0:n=0
 ·subst h0;decide+kernel
 ·have hne:n.natAbs≠0:=by omega
  obtain⟨b,l,e,h1,h2⟩:=VH n.natAbs hne
  rw[YM]
  by_cases hn:n<0
  ·rw[if_pos hn];have h:=Zc5 (l:=QD n.natAbs) (JJ _) (fun c t e'=>by rw[e] at e';injection e' with e1 e2;rw[<-e1];exact h1) (by rw[e];simp);unfold val;rw[show([45]++QD n.natAbs:List UInt8)=45::QD n.natAbs from rfl,h];simp only[if_true,ZaM];omega
  ·rw[if_neg hn,List.nil_append];unfold val;rw[Zc3 _ hne];simp only[Bool.false_eq_true,if_false,ZaM];omega
theorem YN:val []=0:=by decide+kernel
theorem Zfa{m n:Int}(h:Qb m=Qb n):m=n:=by rw[<-Qh m,h,Qh]
theorem Zb8{n:Int}:Qb n=[]↔n=0:=⟨fun h=>by rw[<-Qh n,h,YN],fun h=>by rw[h];rfl⟩
theorem VL(a:List UInt8):(val a).natAbs<10^a.length:=by
 have h1:=Vw (Vx a).1;have h2:=Vv a;have h3:10^(Qf a).1.length<=10^a.length:=Nat.pow_le_pow_right (by omega) h2;unfold val
 split<;>omega
theorem Jf{m L:Nat}:m<10^L->(QD m).length<=L:=by
 induction L generalizing m with
 |zero=>intro h;simp at h;subst h;simp[QD]
 |succ L ih=>
  intro h
  by_cases h0:m=0
  ·subst h0;simp[QD]
  ·rw[Xi m h0,List.length_append,List.length_singleton];have:=ih (m:=m/10) (by rw[Nat.pow_succ] at h;omega)
   omega
theorem Qk{n:Int}{L:Nat}(h:n.natAbs<10^L):(Qb n).length<=L+1:=by
 have:=Jf h
 rw[YM,List.length_append]
 split<;>simp<;>omega
structure Fr where
 n:List UInt8
 d:List UInt8
deriving DecidableEq
theorem Fr.ext_{f g:Fr}(h1:f.n=g.n)(h2:f.d=g.d):f=g:=by cases f;cases g;simp_all
def Fr.zero:Fr:=⟨[],[]⟩
def Fr.dv(f:Fr):Int:=if val f.d=0 then 1 else val f.d
theorem Fr.dv_ne(f:Fr):f.dv≠0:=by
 unfold Fr.dv
 split
 ·omega
 ·assumption
def Fr.rat(f:Fr):Rat:=Rat.divInt (val f.n) f.dv
def Qd(q:Rat):Fr:=⟨Qb q.num,if q.den=1 then[] else Qb q.den⟩
theorem QU(q:Rat):(Qd q).rat=q:=by
 unfold Fr.rat Fr.dv Qd;simp only[Qh]
 by_cases h:q.den=1
 ·rw[if_pos h,if_pos YN];have:=Rat.num_divInt_den q
  rw[h] at this;exact this
 ·rw[if_neg h,Qh,if_neg (by have:=q.den_nz;omega)];exact Rat.num_divInt_den q
theorem Zel:Qd 0=Fr.zero:=rfl
theorem Zb9:Fr.zero.rat=0:=by rw[<-Zel,QU]
theorem ZdJ(f g:Fr):f.rat-g.rat=Rat.divInt (val f.n*g.dv-val g.n*f.dv) (f.dv*g.dv):=Rat.divInt_sub_divInt _ _ f.dv_ne g.dv_ne
theorem ZgW(f g:Fr):f.rat*g.rat=Rat.divInt (val f.n*val g.n) (f.dv*g.dv):=Rat.divInt_mul_divInt _ _
theorem ZgX(f g:Fr):f.rat/g.rat=Rat.divInt (val f.n*g.dv) (f.dv*val g.n):=by
 unfold Fr.rat;rw[Rat.div_def,Rat.inv_divInt,Rat.divInt_mul_divInt]
theorem Zca(f:Fr):f.rat=0↔val f.n=0:=by
 unfold Fr.rat
 constructor
 ·intro h;have h2:Rat.divInt (val f.n) f.dv=Rat.divInt 0 1:=by rw[h];rfl
  rw[Rat.divInt_eq_divInt_iff f.dv_ne (by omega)] at h2;omega
 ·intro h;rw[h,Rat.zero_divInt]
theorem ZgY(n d:Int)(hd:0<d):Int.fdiv n (Int.gcd n d)=(Rat.divInt n d).num:=by
 rw[Rat.num_divInt,Int.sign_eq_one_of_pos hd,Int.one_mul,Int.gcd_comm d n,Int.fdiv_eq_ediv_of_nonneg _ (by omega)]
theorem ZgZ(n d:Int)(hd:0<d):Int.fdiv d (Int.gcd n d)=(Rat.divInt n d).den:=by
 rw[Rat.den_divInt,if_neg (by omega),Int.gcd_comm d n,Int.fdiv_eq_ediv_of_nonneg _ (by omega),Int.natCast_ediv,Int.natAbs_of_nonneg (by omega)]
theorem Zg0(n d:Int)(hd:d≠0):(0:Int)<Int.gcd n d:=by
 have:=Int.gcd_pos_of_ne_zero_right n hd
 omega
theorem Zax(n d:Int):(Rat.divInt n d).num.natAbs<=n.natAbs:=by
 rw[Rat.num_divInt];have h1:(d.sign*n/(d.gcd n:Int)).natAbs<=(d.sign*n).natAbs:=Int.natAbs_ediv_le_natAbs _ _
 have h2:(d.sign*n).natAbs<=n.natAbs:=by
  rw[Int.natAbs_mul]
  have:d.sign.natAbs<=1:=by
   rcases Int.lt_trichotomy d 0 with h|h|h
   ·rw[Int.sign_eq_neg_one_of_neg h];decide
   ·rw[h];decide
   ·rw[Int.sign_eq_one_of_pos h];decide
  calc d.sign.natAbs*n.natAbs<=1*n.natAbs:=Nat.mul_le_mul_right _ this
   _=n.natAbs:=Nat.one_mul _
 omega
theorem Zay(n d:Int)(hd:d≠0):(Rat.divInt n d).den<=d.natAbs:=by
 rw[Rat.den_divInt,if_neg hd];exact Nat.div_le_self _ _
def RB(L:Nat)(q:Rat):Prop:=q.num.natAbs<10^L/\q.den<10^L
theorem RB.more{L M:Nat}{q:Rat}(h:RB L q)(hLM:L<=M):RB M q:=
 ⟨Nat.lt_of_lt_of_le h.1 (Nat.pow_le_pow_right (by omega) hLM),Nat.lt_of_lt_of_le h.2 (Nat.pow_le_pow_right (by omega) hLM)⟩
theorem RB.divInt{L:Nat}{n d:Int}(hn:n.natAbs<10^L)(hd:d.natAbs<10^L)(h0:d≠0):RB L (Rat.divInt n d):=
 ⟨Nat.lt_of_le_of_lt (Zax n d) hn,Nat.lt_of_le_of_lt (Zay n d h0) hd⟩
def Fr.Sz(L:Nat)(f:Fr):Prop:=f.n.length<=L/\f.d.length<=L
theorem Fr.dv_lt{f:Fr}{L:Nat}(h:f.d.length<=L)(hL:1<=L):f.dv.natAbs<10^L:=by
 unfold Fr.dv;have h1:=VL f.d;have h2:10^f.d.length<=10^L:=Nat.pow_le_pow_right (by omega) h;have h3:10^1<=10^L:=Nat.pow_le_pow_right (by omega) hL
 split<;>omega
theorem QZ{a:List UInt8}{L:Nat}(h:a.length<=L):(val a).natAbs<10^L:=
 Nat.lt_of_lt_of_le (VL a) (Nat.pow_le_pow_right (by omega) h)
theorem Qq{a b:Int}{L M:Nat}(ha:a.natAbs<10^L)(hb:b.natAbs<10^M):(a*b).natAbs<10^(L+M):=by
 rw[Int.natAbs_mul,Nat.pow_add];have h0:0<10^M:=Nat.pow_pos (by omega)
 rcases Nat.eq_zero_or_pos a.natAbs with h|h
 ·rw[h,Nat.zero_mul];exact Nat.mul_pos (Nat.pow_pos (by omega)) h0
 ·exact Nat.lt_of_lt_of_le (Nat.mul_lt_mul_of_pos_left hb h) (Nat.mul_le_mul_right _ (Nat.le_of_lt ha))
theorem JK{a b:Int}{L:Nat}(ha:a.natAbs<10^L)(hb:b.natAbs<10^L):(a-b).natAbs<10^(L+1):=by
 rw[Nat.pow_succ];omega
theorem Zg1{q:Rat}{L:Nat}(h:RB L q):(Qd q).Sz (L+1):=by
 refine⟨Qk h.1,?_⟩;unfold Qd;simp only
 split
 ·simp
 ·exact Qk (by simpa using h.2)
theorem ZhX{f:Fr}{L:Nat}(h:f.Sz L)(hL:1<=L):RB L f.rat:=RB.divInt (QZ h.1) (Fr.dv_lt h.2 hL) f.dv_ne
theorem Fr.Sz.more{f:Fr}{L M:Nat}(h:f.Sz L)(hLM:L<=M):f.Sz M:=⟨Nat.le_trans h.1 hLM,Nat.le_trans h.2 hLM⟩
theorem Zh7{f g:Fr}{L:Nat}(hf:f.Sz L)(hg:g.Sz L)(hL:1<=L):RB (L+L+1) (f.rat-g.rat):=by
 rw[ZdJ];have h0:=Int.mul_ne_zero f.dv_ne g.dv_ne;refine RB.divInt (JK (Qq (QZ hf.1) (Fr.dv_lt hg.2 hL)) (Qq (QZ hg.1) (Fr.dv_lt hf.2 hL))) ?_ h0;exact Nat.lt_of_lt_of_le (Qq (Fr.dv_lt hf.2 hL) (Fr.dv_lt hg.2 hL)) (Nat.pow_le_pow_right (by omega) (by omega))
def VM(x y:Rat):Int:=if x<y then-1 else if y<x then 1 else 0
def QQ(n:Int):Int:=if n<0 then-1 else if 0<n then 1 else 0
theorem Zfb(x y:Rat):VM x y=QQ (x-y).num:=by
 unfold VM QQ
 have e1:(x-y).num<0↔x<y:=by
  have h:=Rat.num_nonneg (q:=x-y);have h2:=Rat.le_iff_sub_nonneg y x;rw[<-Rat.not_le,h2,<-h];omega
 have e2:0<(x-y).num↔y<x:=by
  have h:=Rat.num_nonneg (q:=y-x);have h2:=Rat.le_iff_sub_nonneg x y;rw[<-Rat.not_le,h2,<-h,<-Rat.neg_sub x y,Rat.neg_num];omega
 simp only[e1,e2]
def Fr.ok(f:Fr):Prop:=f=Qd f.rat
instance (f:Fr):Decidable f.ok:=inferInstanceAs (Decidable (f=Qd f.rat))
end
section
open Go.RowKit Go.Shelf
structure Lot where
 id:List UInt8
 inst:List UInt8
 acq:Int
 opn:Int
 q:List UInt8
 c:List UInt8
 u:List UInt8
deriving DecidableEq
def ZiG(a:List UInt8):Bool:=decide (a=Qb (val a))
def Vf(c:UInt8):Bool:=(decide (97<=c)&&decide (c<=122))||(decide (48<=c)&&decide (c<=57))||c==95
def Qv(s:List UInt8):Bool:=decide (s≠[])&&decide (s.length<=16)&&s.all Vf
def Zcb(s:List UInt8):Bool:=decide (1<=s.length)&&decide (s.length<=4)&&decide (s.head?≠some 48)&&s.all Qx
def idB(s:List UInt8):Bool:=decide (47∈s)&&Qv (s.takeWhile (·!=47))&&Zcb ((s.dropWhile (·!=47)).drop 1)
def Zh8(d:Int):Bool:=decide (-25567<=d)&&decide (d<=84005)
structure Lot.Ok (l:Lot):Prop where
 id:idB l.id=true
 inst:Qv l.inst=true
 acq:Zh8 l.acq=true
 opn:Zh8 l.opn=true
 ord:l.acq<=l.opn
 q:ZiG l.q=true
 c:ZiG l.c=true
 q0:0<val l.q
 c0:0<=val l.c
 u:l.u=[]\/l.u=l.q
structure LotsOk (l:List Lot):Prop where
 len:l.length<=1000
 ok:∀x∈l,x.Ok
 ids:(l.map (·.id)).Nodup
def leS(a b:List UInt8):Bool:=Op.bytesLess a b||a==b
def ZdK(l:List Lot)(i:List UInt8):Nat:=l.length-(l.reverse.takeWhile (fun y=> !leS y.inst i)).length
def ZiH(l:List Lot)(x:Lot):List Lot:=l.take (ZdK l x.inst)++x::l.drop (ZdK l x.inst)
end
section
open Go.RowKit Go.Shelf
def flo(q:Rat):Int:=q.num.fdiv q.den
def Vs(q:Rat):Int:=q.num.fmod q.den
theorem Zg2(q:Rat):q.den*flo q+Vs q=q.num:=by
 unfold flo Vs;exact Int.mul_fdiv_add_fmod _ _
theorem Vl(q:Rat):0<=Vs q/\Vs q<q.den:=by
 unfold Vs;have h:(0:Int)<q.den:=by have:=q.den_pos;omega
 exact⟨Int.fmod_nonneg_of_pos _ h,Int.fmod_lt_of_pos _ h⟩
def rnd(q:Rat):Int:=if(q.den:Int)<2*Vs q\/(2*Vs q=q.den/\(flo q).fmod 2≠0) then flo q+1 else flo q
theorem Zia(q:Rat):(flo q).natAbs<=q.num.natAbs+1:=by
 have h1:=Zg2 q;obtain⟨h2,h3⟩:=Vl q
 have h4:(1:Int)<=q.den:=by have:=q.den_pos;omega
 generalize flo q=f at*;generalize Vs q=r at*;generalize (q.den:Int)=d at*;generalize q.num=n at*
 rcases Int.le_total 0 f with h|h
 ·have:1*f<=d*f:=Int.mul_le_mul_of_nonneg_right h4 h
  omega
 ·have:d*f<=1*f:=Int.mul_le_mul_of_nonpos_right h4 h
  have:f<0->d*(f+1)<=1*(f+1):=fun h5=>Int.mul_le_mul_of_nonpos_right h4 (by omega)
  rw[Int.mul_add] at this;omega
end
section
open Go.RowKit Go.Shelf
theorem Zcc(l m:List Int):(l++m).sum=l.sum+m.sum:=by
 induction l with
 |nil=>simp
 |cons a l ih=>simp only[List.cons_append,List.sum_cons,ih];omega
end
section
open Go.RowKit Go.Shelf
def Zem(ws:List (List UInt8)):Int:=(ws.map val).sum
theorem Zfc{ws:List (List UInt8)}{L:Nat}(h:∀x∈ws,x.length<=L):(Zem ws).natAbs<=ws.length*10^L:=by
 unfold Zem
 induction ws with
 |nil=>simp
 |cons a l ih=>
  have h1:=ih (fun x hx=>h x (by simp[hx]));have h2:=QZ (h a (by simp));simp only[List.map_cons,List.sum_cons,List.length_cons,Nat.succ_mul];omega
theorem Zfd{ws:List (List UInt8)}{L:Nat}(h:∀x∈ws,x.length<=L)(hn:ws.length<=9999):(Qb (Zem ws)).length<=L+5:=by
 refine Qk (L:=L+4) ?_;have h1:=Zfc h;have h2:ws.length*10^L<10^4*10^L:=Nat.mul_lt_mul_of_pos_right (by omega) (Nat.pow_pos (by omega));rw[Nat.pow_add,Nat.mul_comm (10^L)];omega
end
section
open Go.RowKit
theorem Zc6(n:Int):Rat.divInt n 1=(n:Rat):=by
 have:=Rat.num_divInt_den (n:Rat)
 simpa using this
end
section
open Go.RowKit Go.Shelf
structure Mp where
 cause:List UInt8
 day:Int
 inst:List UInt8
 other:List UInt8
 ratio:Fr
 share:Fr
 price:Fr
 keep:Bool
deriving DecidableEq
structure Mp.Ok (m:Mp):Prop where
 cause:Qv m.cause=true
 inst:Qv m.inst=true
 other:Qv m.other=true
 day:Zh8 m.day=true
 ratio:m.ratio.ok
 share:m.share.ok
 price:m.price.ok
 r0:0<m.ratio.rat
 s0:0<=m.share.rat
 s1:m.share.rat<=1
 p0:0<=m.price.rat
 keep:m.keep=true->m.other≠m.inst
 all:m.keep=false->m.share.rat=1
structure Plan where
 exact:Rat
 parts:Int
 part:Rat
 moved:Int
 taken:Int
 cash:Int
 n:List Int
 m:List Int
 f:List Int
 p:List Int
end
section
open Go.RowKit Go.Shelf
def Plan.mv(x:Plan)(i:Nat):Int:=x.m.getD i 0-x.f.getD i 0
def Plan.rest(x:Plan)(i:Nat):Int:=(((List.range i).filter fun k=>decide (x.n.getD k 0=0)).map x.mv).sum
structure Gain where
 cause:List UInt8
 lot:List UInt8
 inst:List UInt8
 acq:Int
 closed:Int
 q:List UInt8
 proceeds:List UInt8
 cost:List UInt8
 deferred:List UInt8
 replaced:List UInt8
deriving DecidableEq
structure Stp where
 cause:List UInt8
 src:List UInt8
 dst:List UInt8
 q:List UInt8
 made:List UInt8
 cost:List UInt8
deriving DecidableEq
structure Res where
 lots:List Lot
 gains:List Gain
 steps:List Stp
def Res.none:Res:=⟨[],[],[]⟩
theorem Zfe(a:List UInt8):leS a a=true:=by unfold leS;simp
structure CutAt (i:List UInt8) (A B:List Lot):Prop where
 b:∀y∈B,leS y.inst i=false
 a:A=[]\/∃A' y,A=A'++[y]/\leS y.inst i=true
theorem CutAt.at_{i:List UInt8}{A B:List Lot}(h:CutAt i A B):ZdK (A++B) i=A.length:=by
 unfold ZdK
 have e:((A++B).reverse.takeWhile (fun y=> !leS y.inst i))=B.reverse:=by
  rw[List.reverse_append,List.takeWhile_append_of_pos (fun y hy=>by simp[h.b y (by simpa using hy)])]
  have e2:A.reverse.takeWhile (fun y=> !leS y.inst i)=[]:=by
   rcases h.a with rfl|⟨A',y,rfl,hy⟩
   ·rfl
   ·rw[List.reverse_append];simp[hy]
  rw[e2,List.append_nil]
 rw[e];simp
theorem CutAt.put{A B:List Lot}{x:Lot}(h:CutAt x.inst A B):ZiH (A++B) x=A++x::B:=by
 unfold ZiH;rw[h.at_,List.take_left,List.drop_left]
theorem CutAt.next{A B:List Lot}{x:Lot}(h:CutAt x.inst A B):CutAt x.inst (A++[x]) B:=⟨h.b,.inr ⟨A,x,rfl,Zfe _⟩⟩
theorem LotsOk.put{l:List Lot}{x:Lot}(h:LotsOk l)(hx:x.Ok)(hid:x.id ∉ l.map (·.id))(hl:l.length<1000){A B:List Lot}(e:l=A++B):LotsOk (A++x::B):=by
 subst e;have hp:(A++x::B).Perm (x::(A++B)):=List.perm_middle;refine⟨?_,?_,?_⟩
 ·rw[hp.length_eq];simp at hl ⊢; omega
 ·intro y hy
  rcases List.mem_cons.1 (hp.mem_iff.1 hy) with rfl|hy
  ·exact hx
  ·exact h.ok y hy
 ·rw[(hp.map (·.id)).nodup_iff,List.map_cons,List.nodup_cons];exact⟨hid,h.ids⟩
end
section
open Go.RowKit Go.Shelf
end
section
open Go.RowKit Go.Shelf
theorem Zen(l:List UInt8)(h:l.all Qx=true):∀acc:Nat,acc*10^l.length+Qg l<1000000000000000000->Lib.parseUint10 acc l=.ok (acc*10^l.length+Qg l):=by
 induction l with
 |nil=>intro acc _;simp[Lib.parseUint10,Qg]
 |cons b l ih=>
  intro acc hb;simp only[List.all_cons,Bool.and_eq_true] at h;have h1:=(Xj b).1 h.1
  have e:Qg (b::l)=(b.toNat-48)*10^l.length+Qg l:=by
   have:=Yw [b] l
   simpa[Qg] using this
  rw[e,List.length_cons,Nat.pow_succ] at hb ⊢;have hp:1<=10^l.length:=Nat.pow_pos (by omega)
  have e2:acc*(10^l.length*10)+((b.toNat-48)*10^l.length+Qg l)=(acc*10+(b.toNat-48))*10^l.length+Qg l:=by
   rw[Nat.add_mul,Nat.mul_assoc,Nat.mul_comm 10,Nat.add_assoc]
  rw[e2] at hb ⊢;have h3:acc*10+(b.toNat-48)<=(acc*10+(b.toNat-48))*10^l.length:=Nat.le_mul_of_pos_right _ hp;unfold Lib.parseUint10;rw[if_pos (by omega),if_neg (by omega),if_neg (by omega)];exact ih h.2 _ hb
theorem Zff{l:List UInt8}(h:l.all Qx=true)(hn:l≠[])(h4:l.length<=17):Lib.atoiAll l=.ok (Qg l:Int):=by
 cases l with
 |nil=>exact absurd rfl hn
 |cons b t=>
  have hb:=h;simp only[List.all_cons,Bool.and_eq_true] at hb;have h1:=(Xj b).1 hb.1;rw[Lib.atoiAll_plain b t (by omega) (by omega)];unfold Lib.parseMag;rw[if_neg (by simp)];have hv:=Vw h;have hp:10^(b::t).length<=10^17:=Nat.pow_le_pow_right (by omega) h4;rw[Zen _ h 0 (by omega)];simp only[Nat.zero_mul,Nat.zero_add];unfold Lib.signless;simp only;rw[if_neg (by omega)]
theorem Zeo{k:Nat}(h1:1<=k)(h2:k<=9999):Zcb (QD k)=true:=by
 unfold Zcb;obtain⟨b,l,e,hb,_⟩:=VH k (by omega)
 have h3:=Jf (m:=k) (L:=4) (by omega);have h4:=Ze5 k (by omega)
 have h5:(some b:Option UInt8)≠some 48:=fun e2=>by
  injection e2 with e2;subst e2;exact absurd hb (by decide)
 rw[JJ,decide_eq_true h3,decide_eq_true h4,e,List.head?_cons,decide_eq_true h5];rfl
theorem Zep(l:List UInt8):Zcb l=match Lib.atoiAll l with| .ok v=>decide (1<=v)&&(decide (v<=9999)&&(Lib.itoa v==l))|_=>false:=by
 by_cases h:Zcb l=true
 ·have h':=h;unfold Zcb at h';simp only[Bool.and_eq_true,decide_eq_true_eq] at h';obtain⟨⟨⟨a1,a2⟩,a3⟩,a4⟩:=h'
  have hne:l≠[]:=fun e=>by rw[e] at a1;simp at a1
  rw[h,Zff a4 hne (by omega)]
  have hd:QD (Qg l)=l:=VK a4 (fun b t e=>by
   rw[e] at a3;simp only[List.head?_cons,ne_eq,Option.some.injEq] at a3;simpa using a3)
  have hv:Qg l<10^4:=Nat.lt_of_lt_of_le (Vw a4) (Nat.pow_le_pow_right (by omega) a2);have h0:Qg l≠0:=fun e=>by rw[e] at hd;exact hne hd.symm
  have hi:Lib.itoa (Qg l:Int)=l:=by
   unfold Lib.itoa;rw[if_neg (by omega)]
   conv=>rhs;rw[<-hd]
   unfold QD;rw[if_neg h0];simp
  simp only[hi,beq_self_eq_true,Bool.and_true];rw[decide_eq_true (show(1:Int)<=(Qg l:Int) by omega),decide_eq_true (show(Qg l:Int)<=9999 by omega)];rfl
 ·have hf:Zcb l=false:=by simpa using h
  rw[hf]
  rcases ha:Lib.atoiAll l with v|_|_
  ·simp only
   cases h1:decide (1<=v) with
   |false=>rfl
   |true=>
    cases h2:decide (v<=9999) with
    |false=>rfl
    |true=>
     cases h3:Lib.itoa v==l with
     |false=>rfl
     |true=>
      exfalso
      apply h
      have h3:=eq_of_beq h3;simp only[decide_eq_true_eq] at h1 h2;rw[<-h3];unfold Lib.itoa;rw[if_neg (by omega)];have:=Zeo (k:=v.toNat) (by omega) (by omega)
      unfold QD at this;rw[if_neg (by omega)] at this;simpa using this
  ·rfl
  ·rfl
def XL(s:List UInt8):List UInt8:=s.takeWhile (·!=47)
def Vm(s:List UInt8):List UInt8:=(s.dropWhile (·!=47)).drop 1
theorem ZaN(s:List UInt8):(47∈s->Lib.indexByte s 47=((XL s).length:Nat)/\(XL s).length<s.length/\s.take (XL s).length=XL s/\s.drop ((XL s).length+1)=Vm s)/\(47 ∉ s->Lib.indexByte s 47= -1/\XL s=s/\Vm s=[]):=by
 induction s with
 |nil=>exact⟨fun h=>by simp at h,fun _=>⟨rfl,rfl,rfl⟩⟩
 |cons b l ih=>
  by_cases hb:b=47
  ·subst hb;refine⟨fun _=> ?_,fun h=>absurd (List.mem_cons_self) h⟩;refine⟨rfl,by simp[XL],by simp[XL],?_⟩;simp[XL,Vm]
  ·have e1:XL (b::l)=b::XL l:=by unfold XL;rw[List.takeWhile_cons];simp[hb]
   have e2:Vm (b::l)=Vm l:=by unfold Vm;rw[List.dropWhile_cons];simp[hb]
   have hbb:(b==47)=false:=by simpa using hb
   constructor
   ·intro h
    have hl:47∈l:=by
     rcases List.mem_cons.1 h with e|h
     ·exact absurd e.symm hb
     ·exact h
    obtain⟨a1,a2,a3,a4⟩:=ih.1 hl
    refine⟨?_,?_,?_,?_⟩
    ·rw[Lib.indexByte,hbb,a1,e1];simp only[Bool.false_eq_true,if_false];rw[if_neg (by simp)];simp
    ·rw[e1];simp;omega
    ·rw[e1];simp[a3]
    ·rw[e1,e2];simpa using a4
   ·intro h;have hl:47 ∉ l:=fun hm=>h (List.mem_cons_of_mem b hm)
    obtain⟨a1,a2,a3⟩:=ih.2 hl
    refine⟨?_,by rw[e1,a2],by rw[e2,a3]⟩;rw[Lib.indexByte,hbb,a1];rfl
theorem Zib(s:List UInt8):idB s=(Zcb (Vm s)&&Qv (XL s)):=by
 unfold idB
 by_cases h:47∈s
 ·rw[decide_eq_true h,Bool.true_and,Bool.and_comm];rfl
 ·rw[decide_eq_false h];have e:Vm s=[]:=((ZaN s).2 h).2.2;rw[e];rfl
end
end Go.Proofs.YtokjnjdbnabchaaGreatDoor
