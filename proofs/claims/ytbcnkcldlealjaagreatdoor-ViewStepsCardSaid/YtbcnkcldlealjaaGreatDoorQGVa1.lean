/- M1, FR. -/
import Derived.Test.YtbcnkcldlealjaaGreatDoorQGVa37
namespace Go.Proofs.YtbcnkcldlealjaaGreatDoor
open Go.RowKit Go.Shelf
section
def gv:List Nat->Nat
 |[]=>0
 |x::xs=>x+1000000000*gv xs
def Gs(xs:List Nat):Prop:=∀x∈xs,x<1000000000
def Nz(xs:List Nat):Prop:=xs.getLast?≠some 0
structure Mag (xs:List Nat) (v:Nat):Prop where
 gs:Gs xs
 nz:Nz xs
 val:gv xs=v
theorem Yr(xs ys:List Nat):gv (xs++ys)=gv xs+1000000000^xs.length*gv ys:=by
 induction xs with
 |nil=>simp[gv]
 |cons x xs ih=>
  rw[List.cons_append,gv,ih,gv,List.length_cons,Nat.pow_succ,Nat.mul_add,Nat.add_assoc,<-Nat.mul_assoc,Nat.mul_comm (1000000000^xs.length) 1000000000]
theorem Yd(xs:List Nat)(g:Nat):gv (xs++[g])=gv xs+1000000000^xs.length*g:=by rw[Yr];simp[gv]
theorem Gs.nil:Gs []:=fun x hx=>by cases hx
theorem Gs.snoc{xs:List Nat}{g:Nat}(h:Gs xs)(hg:g<1000000000):Gs (xs++[g]):=fun x hx=>by
 rcases List.mem_append.1 hx with h1|h1
 ·exact h x h1
 ·simp at h1;rw[h1];exact hg
theorem Gs.take{xs:List Nat}(h:Gs xs)(k:Nat):Gs (xs.take k):=fun x hx=>h x (List.mem_of_mem_take hx)
theorem Gs.at_{xs:List Nat}(h:Gs xs){i g:Nat}(hi:xs[i]?=some g):g<1000000000:=h g (List.mem_of_getElem? hi)
theorem Ye{xs:List Nat}(h:Gs xs):gv xs<1000000000^xs.length:=by
 induction xs with
 |nil=>simp[gv]
 |cons x xs ih=>
  have h1:=ih (fun y hy=>h y (by simp[hy]));have h2:=h x (by simp);rw[gv,List.length_cons,Nat.pow_succ];omega
theorem VX{xs:List Nat}(hn:xs≠[])(h:Nz xs):1000000000^(xs.length-1)<=gv xs:=by
 obtain⟨ys,g,rfl⟩:∃ys g,xs=ys++[g]:=⟨xs.dropLast,xs.getLast hn,(List.dropLast_concat_getLast hn).symm⟩
 have hg:g≠0:=fun e=>h (by rw[e];simp)
 rw[Yd,List.length_append,List.length_singleton,Nat.add_sub_cancel];exact Nat.le_trans (Nat.le_mul_of_pos_right _ (by omega)) (Nat.le_add_left _ _)
theorem Yf(xs:List Nat)(i:Nat)(g:Nat)(h:xs[i]?=some g):gv (xs.take (i+1))=gv (xs.take i)+1000000000^i*g:=by
 obtain⟨hi,rfl⟩:=List.getElem?_eq_some_iff.1 h
 rw[List.take_succ_eq_append_getElem hi,Yd,List.length_take,Nat.min_eq_left (by omega)]
theorem Xb(xs:List Nat)(i:Nat)(g:Nat)(h:xs[i]?=some g):gv (xs.drop i)=g+1000000000*gv (xs.drop (i+1)):=by
 obtain⟨hi,rfl⟩:=List.getElem?_eq_some_iff.1 h
 rw[List.drop_eq_getElem_cons hi,gv]
theorem XD(xs:List Nat)(i:Nat)(hi:i<=xs.length):gv xs=gv (xs.take i)+1000000000^i*gv (xs.drop i):=by
 have:=Yr (xs.take i) (xs.drop i)
 rw[List.take_append_drop,List.length_take,Nat.min_eq_left hi] at this;exact this
theorem Mag.zero:Mag [] 0:=⟨Gs.nil,by unfold Nz;simp,rfl⟩
theorem Mag.nil_iff{xs:List Nat}{v:Nat}(h:Mag xs v):xs=[]↔v=0:=by
 constructor
 ·rintro rfl;exact h.val.symm
 ·intro hv
  by_cases hn:xs=[]
  ·exact hn
  ·have:=VX hn h.nz
   rw[h.val,hv] at this;have:=Nat.pow_pos (n:=xs.length-1) (show 0<1000000000 by decide)
   omega
theorem Mag.len{xs:List Nat}{v k:Nat}(h:Mag xs v)(hv:v<1000000000^k):xs.length<=k:=by
 by_cases hn:xs=[]
 ·rw[hn];simp
 ·have h1:=VX hn h.nz;rw[h.val] at h1;have h2:=Nat.lt_of_le_of_lt h1 hv;have:=(Nat.pow_lt_pow_iff_right (show 1<1000000000 by decide)).1 h2
  omega
theorem Zb8{α:Type}{P:List α->Prop}(h0:P [])(h1:∀l b,P l->P (l++[b]))(l:List α):P l:=by
 have:∀l:List α,P l.reverse:=by
  intro l
  induction l with
  |nil=>exact h0
  |cons a l ih=>rw[List.reverse_cons];exact h1 _ _ ih
 have h:=this l.reverse
 rwa [List.reverse_reverse] at h
def Qg(l:List UInt8):Nat:=l.foldl (fun n b=>10*n+(b.toNat-48)) 0
theorem Vv(l:List UInt8)(n:Nat):l.foldl (fun n b=>10*n+(b.toNat-48)) n=n*10^l.length+Qg l:=by
 induction l generalizing n with
 |nil=>simp[Qg]
 |cons b l ih=>
  have e:Qg (b::l)=(10*0+(b.toNat-48))*10^l.length+Qg l:=by unfold Qg;rw[List.foldl_cons];exact ih _
  rw[List.foldl_cons,ih,e,List.length_cons,Nat.pow_succ,Nat.add_mul,Nat.mul_comm 10 n,Nat.mul_assoc,Nat.mul_comm 10 (10^l.length),Nat.mul_zero,Nat.zero_add,Nat.add_assoc]
theorem YK(l l':List UInt8):Qg (l++l')=Qg l*10^l'.length+Qg l':=by
 unfold Qg;rw[List.foldl_append,Vv];rfl
theorem VY(l:List UInt8)(b:UInt8):Qg (l++[b])=10*Qg l+(b.toNat-48):=by
 rw[YK,Nat.mul_comm];simp[Qg]
theorem Xq(b:UInt8):Qz b=true↔48<=b.toNat/\b.toNat<=57:=by
 unfold Qz;simp[UInt8.le_iff_toNat_le]
theorem VG{l:List UInt8}:l.all Qz=true->Qg l<10^l.length:=by
 refine Zb8 (P:=fun l=>l.all Qz=true->Qg l<10^l.length) ?_ ?_ l
 ·intro _;simp[Qg]
 ·intro l b ih h;rw[List.all_append] at h;simp only[List.all_cons,List.all_nil,Bool.and_true,Bool.and_eq_true] at h;have h1:=ih h.1;have h2:=(Xq b).1 h.2;rw[VY,List.length_append,List.length_singleton,Nat.pow_succ];omega
theorem Zft(b:UInt8)(h:Qz b=true):UInt8.ofNat (48+(b.toNat-48))=b:=by
 have h2:=(Xq b).1 h;rw[show 48+(b.toNat-48)=b.toNat by omega];simp
theorem Vb{b:UInt8}{l:List UInt8}(h:(b::l).all Qz=true)(hb:(b==48)=false):Qg (b::l)≠0:=by
 have h1:Qz b=true:=by simp at h;exact h.1
 have h2:=(Xq b).1 h1
 have h3:b.toNat≠48:=fun e=>by
  have:b=48:=UInt8.toNat_inj.1 e
  rw[this] at hb;simp at hb
 unfold Qg;rw[List.foldl_cons,Vv];have:=Nat.pow_pos (n:=l.length) (show 0<10 by decide)
 have:0<(10*0+(b.toNat-48))*10^l.length:=Nat.mul_pos (by omega) this
 omega
theorem Zeq{l:List UInt8}:l.all Qz=true->(∀b t,l=b::t->(b==48)=false)->QG (Qg l)=l:=by
 refine Zb8 (P:=fun l=>l.all Qz=true->(∀b t,l=b::t->(b==48)=false)->QG (Qg l)=l) ?_ ?_ l
 ·intro _ _;simp[Qg,QG]
 ·intro l b ih h hz;have h':=h;rw[List.all_append] at h;simp only[List.all_cons,List.all_nil,Bool.and_true,Bool.and_eq_true] at h;have h2:=(Xq b).1 h.2
  have hne:Qg (l++[b])≠0:=by
   cases l with
   |nil=>exact Vb h' (hz b [] rfl)
   |cons c t=>exact Vb h' (hz c (t++[b]) rfl)
  rw[Xp _ hne,VY,show(10*Qg l+(b.toNat-48))/10=Qg l by omega,show(10*Qg l+(b.toNat-48))%10=b.toNat-48 by omega,Zft b h.2,ih h.1 (fun c t e=>hz c (t++[b]) (by rw[e];rfl))]
theorem Za2(m:Nat):Qg (QG m)=m:=by
 induction m using Nat.strongRecOn with
 |_ m ih=>
  by_cases h:m=0
  ·subst h;rfl
  ·rw[Xp m h,VY,ih (m/10) (by omega)];have:(UInt8.ofNat (48+m%10)).toNat=48+m%10:=by simp;omega
   omega
def val(a:List UInt8):Int:=if(Qk a).2 then-(Qg (Qk a).1:Int) else Qg (Qk a).1
theorem JL(a:List UInt8):(Qk a).1.all Qz=true/\(∀b t,(Qk a).1=b::t->(b==48)=false)/\((Qk a).2=true->(Qk a).1≠[]):=by
 unfold Qk;simp only
 split
 ·rename_i h
  refine⟨?_,?_,?_⟩
  ·rw[List.all_eq_true] at h ⊢;exact fun x hx=>h x ((List.dropWhile_sublist _).subset hx)
  ·intro b t e;have e':(Lib.trimPrefix a [45]).dropWhile (·==48)=b::t:=e;clear e;have e:=e';have hne:(Lib.trimPrefix a [45]).dropWhile (·==48)≠[]:=by rw[e];simp
   have:=YI (·==48) (Lib.trimPrefix a [45]) hne
   simp only[e,List.head_cons] at this;exact this
  ·intro hh;simp only[Bool.and_eq_true,Bool.not_eq_true'] at hh;intro e;have e':(Lib.trimPrefix a [45]).dropWhile (·==48)=[]:=e;rw[e'] at hh;simp at hh
 ·simp
theorem Zhd(a:List UInt8):(Qk a).2=decide (val a<0):=by
 obtain⟨h1,h2,h3⟩:=JL a
 unfold val
 cases hn:(Qk a).2 with
 |false=>simp
 |true=>
  have hne:=h3 hn
  have hv:Qg (Qk a).1≠0:=by
   cases he:(Qk a).1 with
   |nil=>exact absurd he hne
   |cons b t=>rw[he] at h1;exact Vb h1 (h2 b t he)
  simp;omega
theorem VZ(n:Int):Qi n=(if n<0 then[45] else[])++QG n.natAbs:=by
 unfold Qi QG
 by_cases h:n=0
 ·subst h;rfl
 ·rw[if_neg h,if_neg (by omega:n.natAbs≠0)]
  split<;>rfl
def Zb9:Nat->Nat->List UInt8
 |0,_=>[]
 |k+1,g=>Zb9 k (g/10)++[UInt8.ofNat (48+g%10)]
theorem Zfu(k:Nat):∀(x g:Nat),x≠0->g<10^k->QG (10^k*x+g)=QG x++Zb9 k g:=by
 induction k with
 |zero=>intro x g hx hg;simp at hg;subst hg;simp[Zb9]
 |succ k ih=>
  intro x g hx hg;rw[Nat.pow_succ] at hg
  have e1:10^(k+1)*x+g=10*(10^k*x+g/10)+g%10:=by
   rw[Nat.pow_succ,Nat.mul_add,<-Nat.mul_assoc,Nat.mul_comm 10 (10^k)];omega
  have hne:10^(k+1)*x+g≠0:=by
   have:=Nat.mul_pos (Nat.pow_pos (n:=k+1) (show 0<10 by decide)) (Nat.pos_of_ne_zero hx)
   omega
  rw[Xp _ hne,e1,show(10*(10^k*x+g/10)+g%10)/10=10^k*x+g/10 by omega,show(10*(10^k*x+g/10)+g%10)%10=g%10 by omega,ih x (g/10) hx (by omega),Zb9,List.append_assoc]
theorem ZdL(k:Nat):∀g:Nat,g<10^(k+1)->(Lib.decDigits g).length<=k+1/\List.replicate (k+1-(Lib.decDigits g).length) 48++Lib.decDigits g=Zb9 (k+1) g:=by
 induction k with
 |zero=>
  intro g hg;rw[Lib.decDigits,dif_pos (by omega)];refine⟨by simp,?_⟩;simp only[Zb9,List.nil_append];rw[Nat.mod_eq_of_lt (by omega)];rfl
 |succ k ih=>
  intro g hg;rw[Nat.pow_succ] at hg
  by_cases h10:g<10
  ·rw[Lib.decDigits,dif_pos h10];refine⟨by simp,?_⟩;obtain⟨i1,i2⟩:=ih (g/10) (by omega)
   have e0:g/10=0:=by omega
   rw[e0,Lib.decDigits,dif_pos (by omega)] at i2;rw[Zb9,e0,<-i2,Nat.mod_eq_of_lt h10];simp only[List.length_cons,List.length_nil,Nat.zero_add,Nat.add_sub_cancel];rw[List.replicate_succ',List.append_assoc,List.append_assoc];rfl
  ·rw[Lib.decDigits,dif_neg h10];obtain⟨i1,i2⟩:=ih (g/10) (by omega)
   refine⟨by rw[List.length_append];simp;omega,?_⟩;rw[Zb9,<-i2,List.length_append,List.length_singleton,show k+1+1-((Lib.decDigits (g/10)).length+1)=k+1-(Lib.decDigits (g/10)).length by omega,List.append_assoc]
theorem Zc5(x g:Nat)(hx:x≠0)(hg:g<1000000000):QG (g+1000000000*x)=QG x++(List.replicate (9-(Lib.decDigits g).length) 48++Lib.decDigits g):=by
 have h:=Zfu 9 x g hx (by omega);rw[(ZdL 8 g (by omega)).2,<-h]
 congr 1
 omega
end
section
theorem Zc6{l:List UInt8}(hall:l.all Qz=true)(hz:∀b t,l=b::t->(b==48)=false)(hn:l≠[]):Qk (45::l)=(l,true):=by
 have ht:Lib.trimPrefix (45::l) [45]=l:=by simp[Lib.trimPrefix,Lib.hasPrefix,List.isPrefixOf]
 have hp:Lib.hasPrefix (45::l) [45]=true:=by simp[Lib.hasPrefix,List.isPrefixOf]
 cases l with
 |nil=>exact absurd rfl hn
 |cons b t=>
  unfold Qk;simp only[ht,hall,hp,if_true];rw[List.dropWhile_cons,hz b t rfl];rfl
theorem Qv(n:Int):val (Qi n)=n:=by
 by_cases h0:n=0
 ·subst h0;decide+kernel
 ·have hne:n.natAbs≠0:=by omega
  obtain⟨b,l,e,h1,h2⟩:=VW n.natAbs hne
  rw[VZ]
  by_cases hn:n<0
  ·rw[if_pos hn];have h:=Zc6 (l:=QG n.natAbs) (Zaa _) (fun c t e'=>by rw[e] at e';injection e' with e1 e2;rw[<-e1];exact h1) (by rw[e];simp);unfold val;rw[show([45]++QG n.natAbs:List UInt8)=45::QG n.natAbs from rfl,h];simp only[if_true,Za2];omega
  ·rw[if_neg hn,List.nil_append];unfold val;rw[Zc4 _ hne];simp only[Bool.false_eq_true,if_false,Za2];omega
theorem JM:val []=0:=by decide+kernel
theorem Zfv{m n:Int}(h:Qi m=Qi n):m=n:=by rw[<-Qv m,h,Qv]
theorem Zab(a:List UInt8):(val a).natAbs<10^a.length:=by
 have h1:=VG (JL a).1;have h2:=JZ a;have h3:10^(Qk a).1.length<=10^a.length:=Nat.pow_le_pow_right (by omega) h2;unfold val
 split<;>omega
theorem Ju{m L:Nat}:m<10^L->(QG m).length<=L:=by
 induction L generalizing m with
 |zero=>intro h;simp at h;subst h;simp[QG]
 |succ L ih=>
  intro h
  by_cases h0:m=0
  ·subst h0;simp[QG]
  ·rw[Xp m h0,List.length_append,List.length_singleton];have:=ih (m:=m/10) (by rw[Nat.pow_succ] at h;omega)
   omega
theorem QJ{n:Int}{L:Nat}(h:n.natAbs<10^L):(Qi n).length<=L+1:=by
 have:=Ju h
 rw[VZ,List.length_append]
 split<;>simp<;>omega
structure Fr where
 n:List UInt8
 d:List UInt8
deriving DecidableEq
theorem Fr.ext_{f g:Fr}(h1:f.n=g.n)(h2:f.d=g.d):f=g:=by cases f;cases g;simp_all
def Fr.zero:Fr:=⟨[],[]⟩
def Fr.dv(f:Fr):Int:=if val f.d=0 then 1 else val f.d
theorem Fr.dv_ne(f:Fr):f.dv≠0:=by
 unfold Fr.dv
 split
 ·omega
 ·assumption
def Fr.rat(f:Fr):Rat:=Rat.divInt (val f.n) f.dv
def QH(q:Rat):Fr:=⟨Qi q.num,if q.den=1 then[] else Qi q.den⟩
theorem Zca(q:Rat):(QH q).rat=q:=by
 unfold Fr.rat Fr.dv QH;simp only[Qv]
 by_cases h:q.den=1
 ·rw[if_pos h,if_pos JM];have:=Rat.num_divInt_den q
  rw[h] at this;exact this
 ·rw[if_neg h,Qv,if_neg (by have:=q.den_nz;omega)];exact Rat.num_divInt_den q
theorem Zer:QH 0=Fr.zero:=rfl
theorem Zfw:Fr.zero.rat=0:=by rw[<-Zer,Zca]
theorem ZdM(f g:Fr):f.rat-g.rat=Rat.divInt (val f.n*g.dv-val g.n*f.dv) (f.dv*g.dv):=Rat.divInt_sub_divInt _ _ f.dv_ne g.dv_ne
theorem Zhe(n d:Int)(hd:0<d):Int.fdiv n (Int.gcd n d)=(Rat.divInt n d).num:=by
 rw[Rat.num_divInt,Int.sign_eq_one_of_pos hd,Int.one_mul,Int.gcd_comm d n,Int.fdiv_eq_ediv_of_nonneg _ (by omega)]
theorem Zhf(n d:Int)(hd:0<d):Int.fdiv d (Int.gcd n d)=(Rat.divInt n d).den:=by
 rw[Rat.den_divInt,if_neg (by omega),Int.gcd_comm d n,Int.fdiv_eq_ediv_of_nonneg _ (by omega),Int.natCast_ediv,Int.natAbs_of_nonneg (by omega)]
theorem Zhg(n d:Int)(hd:d≠0):(0:Int)<Int.gcd n d:=by
 have:=Int.gcd_pos_of_ne_zero_right n hd
 omega
theorem ZaP(n d:Int):(Rat.divInt n d).num.natAbs<=n.natAbs:=by
 rw[Rat.num_divInt];have h1:(d.sign*n/(d.gcd n:Int)).natAbs<=(d.sign*n).natAbs:=Int.natAbs_ediv_le_natAbs _ _
 have h2:(d.sign*n).natAbs<=n.natAbs:=by
  rw[Int.natAbs_mul]
  have:d.sign.natAbs<=1:=by
   rcases Int.lt_trichotomy d 0 with h|h|h
   ·rw[Int.sign_eq_neg_one_of_neg h];decide
   ·rw[h];decide
   ·rw[Int.sign_eq_one_of_pos h];decide
  calc d.sign.natAbs*n.natAbs<=1*n.natAbs:=Nat.mul_le_mul_right _ this
   _=n.natAbs:=Nat.one_mul _
 omega
theorem ZaQ(n d:Int)(hd:d≠0):(Rat.divInt n d).den<=d.natAbs:=by
 rw[Rat.den_divInt,if_neg hd];exact Nat.div_le_self _ _
def RB(L:Nat)(q:Rat):Prop:=q.num.natAbs<10^L/\q.den<10^L
theorem RB.more{L M:Nat}{q:Rat}(h:RB L q)(hLM:L<=M):RB M q:=
 ⟨Nat.lt_of_lt_of_le h.1 (Nat.pow_le_pow_right (by omega) hLM),Nat.lt_of_lt_of_le h.2 (Nat.pow_le_pow_right (by omega) hLM)⟩
theorem RB.divInt{L:Nat}{n d:Int}(hn:n.natAbs<10^L)(hd:d.natAbs<10^L)(h0:d≠0):RB L (Rat.divInt n d):=
 ⟨Nat.lt_of_le_of_lt (ZaP n d) hn,Nat.lt_of_le_of_lt (ZaQ n d h0) hd⟩
def Fr.Sz(L:Nat)(f:Fr):Prop:=f.n.length<=L/\f.d.length<=L
theorem Fr.dv_lt{f:Fr}{L:Nat}(h:f.d.length<=L)(hL:1<=L):f.dv.natAbs<10^L:=by
 unfold Fr.dv;have h1:=Zab f.d;have h2:10^f.d.length<=10^L:=Nat.pow_le_pow_right (by omega) h;have h3:10^1<=10^L:=Nat.pow_le_pow_right (by omega) hL
 split<;>omega
theorem Yv{a:List UInt8}{L:Nat}(h:a.length<=L):(val a).natAbs<10^L:=
 Nat.lt_of_lt_of_le (Zab a) (Nat.pow_le_pow_right (by omega) h)
theorem Xd{a b:Int}{L M:Nat}(ha:a.natAbs<10^L)(hb:b.natAbs<10^M):(a*b).natAbs<10^(L+M):=by
 rw[Int.natAbs_mul,Nat.pow_add];have h0:0<10^M:=Nat.pow_pos (by omega)
 rcases Nat.eq_zero_or_pos a.natAbs with h|h
 ·rw[h,Nat.zero_mul];exact Nat.mul_pos (Nat.pow_pos (by omega)) h0
 ·exact Nat.lt_of_lt_of_le (Nat.mul_lt_mul_of_pos_left hb h) (Nat.mul_le_mul_right _ (Nat.le_of_lt ha))
theorem Zac{a b:Int}{L:Nat}(ha:a.natAbs<10^L)(hb:b.natAbs<10^L):(a-b).natAbs<10^(L+1):=by
 rw[Nat.pow_succ];omega
theorem Zhh{q:Rat}{L:Nat}(h:RB L q):(QH q).Sz (L+1):=by
 refine⟨QJ h.1,?_⟩;unfold QH;simp only
 split
 ·simp
 ·exact QJ (by simpa using h.2)
theorem Fr.Sz.more{f:Fr}{L M:Nat}(h:f.Sz L)(hLM:L<=M):f.Sz M:=⟨Nat.le_trans h.1 hLM,Nat.le_trans h.2 hLM⟩
theorem Zii{f g:Fr}{L:Nat}(hf:f.Sz L)(hg:g.Sz L)(hL:1<=L):RB (L+L+1) (f.rat-g.rat):=by
 rw[ZdM];have h0:=Int.mul_ne_zero f.dv_ne g.dv_ne;refine RB.divInt (Zac (Xd (Yv hf.1) (Fr.dv_lt hg.2 hL)) (Xd (Yv hg.1) (Fr.dv_lt hf.2 hL))) ?_ h0;exact Nat.lt_of_lt_of_le (Xd (Fr.dv_lt hf.2 hL) (Fr.dv_lt hg.2 hL)) (Nat.pow_le_pow_right (by omega) (by omega))
def Ja(x y:Rat):Int:=if x<y then-1 else if y<x then 1 else 0
def XS(n:Int):Int:=if n<0 then-1 else if 0<n then 1 else 0
theorem Zfx(x y:Rat):Ja x y=XS (x-y).num:=by
 unfold Ja XS
 have e1:(x-y).num<0↔x<y:=by
  have h:=Rat.num_nonneg (q:=x-y);have h2:=Rat.le_iff_sub_nonneg y x;rw[<-Rat.not_le,h2,<-h];omega
 have e2:0<(x-y).num↔y<x:=by
  have h:=Rat.num_nonneg (q:=y-x);have h2:=Rat.le_iff_sub_nonneg x y;rw[<-Rat.not_le,h2,<-h,<-Rat.neg_sub x y,Rat.neg_num];omega
 simp only[e1,e2]
def Fr.ok(f:Fr):Prop:=f=QH f.rat
instance (f:Fr):Decidable f.ok:=inferInstanceAs (Decidable (f=QH f.rat))
end
end Go.Proofs.YtbcnkcldlealjaaGreatDoor
