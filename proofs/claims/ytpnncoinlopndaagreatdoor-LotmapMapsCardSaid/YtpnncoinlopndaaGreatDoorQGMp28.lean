/- FR, Dv, D0, A0, W0, Lp0, Sx, Lp1, Lp2, R7, Ls0. -/
import Derived.Test.YtpnncoinlopndaaGreatDoorQGMp34
import Derived.Test.YtpnncoinlopndaaGreatDoorQGMp5
import Derived.Shelf.SlSortCmp.NoneTotal
import Derived.Sort.OwnSorted
set_option maxRecDepth 20000
set_option maxHeartbeats 400000
namespace Go.Proofs.YtpnncoinlopndaaGreatDoor
open Go.Lib renaming hid→jq
section
open Go.RowKit Go.Shelf
theorem Zg9{l:List UInt8}(hall:l.all Qx=true)(hz:∀b t,l=b::t->(b==48)=false)(hn:l≠[]):Qi (45::l)=(l,true):=by
 have ht:Lib.trimPrefix (45::l) [45]=l:=by simp[Lib.trimPrefix,Lib.hasPrefix,List.isPrefixOf]
 have hp:Lib.hasPrefix (45::l) [45]=true:=by simp[Lib.hasPrefix,List.isPrefixOf]
 cases l with
 |nil=>exact absurd rfl hn
 |cons b t=>
  unfold Qi;simp only[ht,hall,hp,if_true];rw[List.dropWhile_cons,hz b t rfl];rfl
theorem Qc(n:Int):val (Qa n)=n:=by
 by_cases h0:n=0
 ·subst h0;decide+kernel
 ·have hne:n.natAbs≠0:=by omega
  obtain⟨b,l,e,h1,h2⟩:=Jl n.natAbs hne
  rw[YH]
  by_cases hn:n<0
  ·rw[if_pos hn];have h:=Zg9 (l:=QN n.natAbs) (Jk _) (fun c t e'=>by rw[e] at e';injection e' with e1 e2;rw[<-e1];exact h1) (by rw[e];simp);unfold val;rw[show([45]++QN n.natAbs:List UInt8)=45::QN n.natAbs from rfl,h];simp only[if_true,Vq];omega
  ·rw[if_neg hn,List.nil_append];unfold val;rw[Zc0 _ hne];simp only[Bool.false_eq_true,if_false,Vq];omega
theorem XK:val []=0:=by decide+kernel
theorem ZjO{m n:Int}(h:Qa m=Qa n):m=n:=by rw[<-Qc m,h,Qc]
theorem XN{n:Int}:Qa n=[]↔n=0:=⟨fun h=>by rw[<-Qc n,h,XK],fun h=>by rw[h];rfl⟩
theorem Zad(a:List UInt8):(val a).natAbs<10^a.length:=by
 have h1:=XR (XS a).1;have h2:=XC a;have h3:10^(Qi a).1.length<=10^a.length:=Nat.pow_le_pow_right (by omega) h2;unfold val
 split<;>omega
theorem YY{m L:Nat}:m<10^L->(QN m).length<=L:=by
 induction L generalizing m with
 |zero=>intro h;simp at h;subst h;simp[QN]
 |succ L ih=>
  intro h
  by_cases h0:m=0
  ·subst h0;simp[QN]
  ·rw[XO m h0,List.length_append,List.length_singleton];have:=ih (m:=m/10) (by rw[Nat.pow_succ] at h;omega)
   omega
theorem Qd{n:Int}{L:Nat}(h:n.natAbs<10^L):(Qa n).length<=L+1:=by
 have:=YY h
 rw[YH,List.length_append]
 split<;>simp<;>omega
structure Fr where
 n:List UInt8
 d:List UInt8
deriving DecidableEq
theorem Fr.ext_{f g:Fr}(h1:f.n=g.n)(h2:f.d=g.d):f=g:=by cases f;cases g;simp_all
def Fr.zero:Fr:=⟨[],[]⟩
def Fr.dv(f:Fr):Int:=if val f.d=0 then 1 else val f.d
theorem Fr.dv_ne(f:Fr):f.dv≠0:=by
 unfold Fr.dv
 split
 ·omega
 ·assumption
def Fr.rat(f:Fr):Rat:=Rat.divInt (val f.n) f.dv
def Qf(q:Rat):Fr:=⟨Qa q.num,if q.den=1 then[] else Qa q.den⟩
theorem Qj(q:Rat):(Qf q).rat=q:=by
 unfold Fr.rat Fr.dv Qf;simp only[Qc]
 by_cases h:q.den=1
 ·rw[if_pos h,if_pos XK];have:=Rat.num_divInt_den q
  rw[h] at this;exact this
 ·rw[if_neg h,Qc,if_neg (by have:=q.den_nz;omega)];exact Rat.num_divInt_den q
theorem Vr:Qf 0=Fr.zero:=rfl
theorem Zbk:Fr.zero.rat=0:=by rw[<-Vr,Qj]
theorem ZlB(f g:Fr):f.rat+g.rat=Rat.divInt (val f.n*g.dv+val g.n*f.dv) (f.dv*g.dv):=Rat.divInt_add_divInt _ _ f.dv_ne g.dv_ne
theorem Zh0(f g:Fr):f.rat-g.rat=Rat.divInt (val f.n*g.dv-val g.n*f.dv) (f.dv*g.dv):=Rat.divInt_sub_divInt _ _ f.dv_ne g.dv_ne
theorem ZeS(f g:Fr):f.rat*g.rat=Rat.divInt (val f.n*val g.n) (f.dv*g.dv):=Rat.divInt_mul_divInt _ _
theorem Zh1(n d:Int)(hd:0<d):Int.fdiv n (Int.gcd n d)=(Rat.divInt n d).num:=by
 rw[Rat.num_divInt,Int.sign_eq_one_of_pos hd,Int.one_mul,Int.gcd_comm d n,Int.fdiv_eq_ediv_of_nonneg _ (by omega)]
theorem Zh2(n d:Int)(hd:0<d):Int.fdiv d (Int.gcd n d)=(Rat.divInt n d).den:=by
 rw[Rat.den_divInt,if_neg (by omega),Int.gcd_comm d n,Int.fdiv_eq_ediv_of_nonneg _ (by omega),Int.natCast_ediv,Int.natAbs_of_nonneg (by omega)]
theorem Zh3(n d:Int)(hd:d≠0):(0:Int)<Int.gcd n d:=by
 have:=Int.gcd_pos_of_ne_zero_right n hd
 omega
theorem Zd2(n d:Int):(Rat.divInt n d).num.natAbs<=n.natAbs:=by
 rw[Rat.num_divInt];have h1:(d.sign*n/(d.gcd n:Int)).natAbs<=(d.sign*n).natAbs:=Int.natAbs_ediv_le_natAbs _ _
 have h2:(d.sign*n).natAbs<=n.natAbs:=by
  rw[Int.natAbs_mul]
  have:d.sign.natAbs<=1:=by
   rcases Int.lt_trichotomy d 0 with h|h|h
   ·rw[Int.sign_eq_neg_one_of_neg h];decide
   ·rw[h];decide
   ·rw[Int.sign_eq_one_of_pos h];decide
  calc d.sign.natAbs*n.natAbs<=1*n.natAbs:=Nat.mul_le_mul_right _ this
   _=n.natAbs:=Nat.one_mul _
 omega
theorem ZaQ(n d:Int)(hd:d≠0):(Rat.divInt n d).den<=d.natAbs:=by
 rw[Rat.den_divInt,if_neg hd];exact Nat.div_le_self _ _
def RB(L:Nat)(q:Rat):Prop:=q.num.natAbs<10^L/\q.den<10^L
theorem RB.more{L M:Nat}{q:Rat}(h:RB L q)(hLM:L<=M):RB M q:=
 ⟨Nat.lt_of_lt_of_le h.1 (Nat.pow_le_pow_right (by omega) hLM),Nat.lt_of_lt_of_le h.2 (Nat.pow_le_pow_right (by omega) hLM)⟩
theorem RB.divInt{L:Nat}{n d:Int}(hn:n.natAbs<10^L)(hd:d.natAbs<10^L)(h0:d≠0):RB L (Rat.divInt n d):=
 ⟨Nat.lt_of_le_of_lt (Zd2 n d) hn,Nat.lt_of_le_of_lt (ZaQ n d h0) hd⟩
def Fr.Sz(L:Nat)(f:Fr):Prop:=f.n.length<=L/\f.d.length<=L
theorem Fr.dv_lt{f:Fr}{L:Nat}(h:f.d.length<=L)(hL:1<=L):f.dv.natAbs<10^L:=by
 unfold Fr.dv;have h1:=Zad f.d;have h2:10^f.d.length<=10^L:=Nat.pow_le_pow_right (by omega) h;have h3:10^1<=10^L:=Nat.pow_le_pow_right (by omega) hL
 split<;>omega
theorem Qz{a:List UInt8}{L:Nat}(h:a.length<=L):(val a).natAbs<10^L:=
 Nat.lt_of_lt_of_le (Zad a) (Nat.pow_le_pow_right (by omega) h)
theorem QB{a b:Int}{L M:Nat}(ha:a.natAbs<10^L)(hb:b.natAbs<10^M):(a*b).natAbs<10^(L+M):=by
 rw[Int.natAbs_mul,Nat.pow_add];have h0:0<10^M:=Nat.pow_pos (by omega)
 rcases Nat.eq_zero_or_pos a.natAbs with h|h
 ·rw[h,Nat.zero_mul];exact Nat.mul_pos (Nat.pow_pos (by omega)) h0
 ·exact Nat.lt_of_lt_of_le (Nat.mul_lt_mul_of_pos_left hb h) (Nat.mul_le_mul_right _ (Nat.le_of_lt ha))
theorem Zha{a b:Int}{L:Nat}(ha:a.natAbs<10^L)(hb:b.natAbs<10^L):(a+b).natAbs<10^(L+1):=by
 rw[Nat.pow_succ];omega
theorem Vz{a b:Int}{L:Nat}(ha:a.natAbs<10^L)(hb:b.natAbs<10^L):(a-b).natAbs<10^(L+1):=by
 rw[Nat.pow_succ];omega
theorem QF{q:Rat}{L:Nat}(h:RB L q):(Qf q).Sz (L+1):=by
 refine⟨Qd h.1,?_⟩;unfold Qf;simp only
 split
 ·simp
 ·exact Qd (by simpa using h.2)
theorem Zae{f:Fr}{L:Nat}(h:f.Sz L)(hL:1<=L):RB L f.rat:=RB.divInt (Qz h.1) (Fr.dv_lt h.2 hL) f.dv_ne
theorem Fr.Sz.more{f:Fr}{L M:Nat}(h:f.Sz L)(hLM:L<=M):f.Sz M:=⟨Nat.le_trans h.1 hLM,Nat.le_trans h.2 hLM⟩
theorem ZmJ{f g:Fr}{L:Nat}(hf:f.Sz L)(hg:g.Sz L)(hL:1<=L):RB (L+L+1) (f.rat-g.rat):=by
 rw[Zh0];have h0:=Int.mul_ne_zero f.dv_ne g.dv_ne;refine RB.divInt (Vz (QB (Qz hf.1) (Fr.dv_lt hg.2 hL)) (QB (Qz hg.1) (Fr.dv_lt hf.2 hL))) ?_ h0;exact Nat.lt_of_lt_of_le (QB (Fr.dv_lt hf.2 hL) (Fr.dv_lt hg.2 hL)) (Nat.pow_le_pow_right (by omega) (by omega))
theorem ZjP{f g:Fr}{L:Nat}(hf:f.Sz L)(hg:g.Sz L)(hL:1<=L):RB (L+L) (f.rat*g.rat):=by
 rw[ZeS];exact RB.divInt (QB (Qz hf.1) (Qz hg.1)) (QB (Fr.dv_lt hf.2 hL) (Fr.dv_lt hg.2 hL)) (Int.mul_ne_zero f.dv_ne g.dv_ne)
def Xe(x y:Rat):Int:=if x<y then-1 else if y<x then 1 else 0
def Qy(n:Int):Int:=if n<0 then-1 else if 0<n then 1 else 0
theorem YI(a c:Int){b d:Int}(hb:0<b)(hd:0<d):Rat.divInt a b<Rat.divInt c d↔a*d<c*b:=by
 have hb':(0:Rat)<(b:Rat):=by exact_mod_cast hb
 have hd':(0:Rat)<(d:Rat):=by exact_mod_cast hd
 rw[Rat.divInt_eq_div,Rat.divInt_eq_div,Rat.div_lt_iff hb',Rat.div_def c,Rat.mul_assoc,Rat.mul_comm _ (b:Rat),<-Rat.mul_assoc,<-Rat.div_def,Rat.lt_div_iff hd']
 exact_mod_cast Iff.rfl
theorem Zcp(a c:Int){b d:Int}(hb:0<b)(hd:0<d):Xe (Rat.divInt a b) (Rat.divInt c d)=Qy (a*d-c*b):=by
 unfold Xe Qy;simp only[YI a c hb hd,YI c a hd hb];have e1:a*d-c*b<0↔a*d<c*b:=by omega
 have e2:0<a*d-c*b↔c*b<a*d:=by omega
 simp only[e1,e2]
theorem ZjQ(x y:Rat):Xe x y=Qy (x-y).num:=by
 unfold Xe Qy
 have e1:(x-y).num<0↔x<y:=by
  have h:=Rat.num_nonneg (q:=x-y);have h2:=Rat.le_iff_sub_nonneg y x;rw[<-Rat.not_le,h2,<-h];omega
 have e2:0<(x-y).num↔y<x:=by
  have h:=Rat.num_nonneg (q:=y-x);have h2:=Rat.le_iff_sub_nonneg x y;rw[<-Rat.not_le,h2,<-h,<-Rat.neg_sub x y,Rat.neg_num];omega
 simp only[e1,e2]
def Fr.ok(f:Fr):Prop:=f=Qf f.rat
instance (f:Fr):Decidable f.ok:=inferInstanceAs (Decidable (f=Qf f.rat))
end
section
open Go.RowKit
theorem Xw(n:Int):Rat.divInt n 1=(n:Rat):=by
 have:=Rat.num_divInt_den (n:Rat)
 simpa using this
end
section
open Go.RowKit Go.Shelf
def QK(q:Rat):Int:=q.num.fdiv q.den
def Yr(q:Rat):Int:=q.num.fmod q.den
theorem VA{n d e:Int}(he:0<e):(n*e).fdiv (d*e)=n.fdiv d:=by
 rw[Int.mul_comm n,Int.mul_comm d,Int.mul_fdiv_mul_of_pos _ _ he]
theorem Zbp(n d:Int)(hd:d≠0):n.fdiv d=QK (Rat.divInt n d):=by
 have h1:=Rat.num_divInt_den (Rat.divInt n d);rw[Rat.divInt_eq_divInt_iff (by have:=(Rat.divInt n d).den_nz;omega) hd] at h1;unfold QK;have he:(0:Int)<(Rat.divInt n d).den:=by have:=(Rat.divInt n d).den_pos;omega
 generalize (Rat.divInt n d).num=p at*;generalize ((Rat.divInt n d).den:Int)=e at*;rw[<-VA (n:=n) (d:=d) he,<-h1]
 rcases Int.lt_or_gt_of_ne hd with h|h
 ·have h2:=VA (n:=p) (d:=e) (e:= -d) (by omega);rw[<-h2,Int.mul_neg,Int.mul_neg,Int.neg_fdiv_neg,Int.mul_comm e d]
 ·rw[Int.mul_comm d e,VA h]
theorem Zbq(q:Rat):q.den*QK q+Yr q=q.num:=by
 unfold QK Yr;exact Int.mul_fdiv_add_fmod _ _
theorem XL(q:Rat):0<=Yr q/\Yr q<q.den:=by
 unfold Yr;have h:(0:Int)<q.den:=by have:=q.den_pos;omega
 exact⟨Int.fmod_nonneg_of_pos _ h,Int.fmod_lt_of_pos _ h⟩
def JY(q:Rat):Int:=if(q.den:Int)<2*Yr q\/(2*Yr q=q.den/\(QK q).fmod 2≠0) then QK q+1 else QK q
theorem Zc5(q:Rat):(QK q).natAbs<=q.num.natAbs+1:=by
 have h1:=Zbq q;obtain⟨h2,h3⟩:=XL q
 have h4:(1:Int)<=q.den:=by have:=q.den_pos;omega
 generalize QK q=f at*;generalize Yr q=r at*;generalize (q.den:Int)=d at*;generalize q.num=n at*
 rcases Int.le_total 0 f with h|h
 ·have:1*f<=d*f:=Int.mul_le_mul_of_nonneg_right h4 h
  omega
 ·have:d*f<=1*f:=Int.mul_le_mul_of_nonpos_right h4 h
  have:f<0->d*(f+1)<=1*(f+1):=fun h5=>Int.mul_le_mul_of_nonpos_right h4 (by omega)
  rw[Int.mul_add] at this;omega
end
section
open Go.RowKit Go.Shelf
def QA(t:Int)(ws:List Int):List Int:=ws.map fun w=>(t*w).fdiv ws.sum
def QI(t:Int)(ws:List Int):List Int:=ws.map fun w=>(t*w).fmod ws.sum
def Xs(t:Int)(ws:List Int):Int:=t-(QA t ws).sum
def Jb(rs:List Int)(i k:Nat):Bool:=decide (rs.getD k 0<rs.getD i 0\/(rs.getD i 0=rs.getD k 0/\i<=k))
def QV(rs:List Int):List Nat:=(List.range rs.length).mergeSort (Jb rs)
def upL(t:Int)(ws:List Int):List Nat:=(QV (QI t ws)).take (Xs t ws).toNat
def Xz(t:Int)(ws:List Int):List Int:=(QA t ws).mapIdx fun i b=>if i∈upL t ws then b+1 else b
theorem XW(l m:List Int):(l++m).sum=l.sum+m.sum:=by
 induction l with
 |nil=>simp
 |cons a l ih=>simp only[List.cons_append,List.sum_cons,ih];omega
theorem QP{l:List Int}(h:∀x∈l,0<=x):0<=l.sum:=by
 induction l with
 |nil=>simp
 |cons a l ih=>
  have h1:=h a (by simp);have h2:=ih (fun x hx=>h x (by simp[hx]));simp only[List.sum_cons];omega
theorem ZaF{l:List Int}(h:∀x∈l,0<=x){x:Int}(hx:x∈l):x<=l.sum:=by
 induction l with
 |nil=>simp at hx
 |cons a l ih=>
  have h1:=h a (by simp);have h2:=QP (fun x hx=>h x (List.mem_cons_of_mem a hx));simp only[List.sum_cons]
  rcases List.mem_cons.1 hx with e|hx
  ·omega
  ·have:=ih (fun x hx=>h x (by simp[hx])) hx;omega
theorem Zc6(t S:Int)(ws:List Int):S*(ws.map fun w=>(t*w).fdiv S).sum+(ws.map fun w=>(t*w).fmod S).sum=t*ws.sum:=by
 induction ws with
 |nil=>simp
 |cons a l ih=>
  simp only[List.map_cons,List.sum_cons,Int.mul_add] at ih ⊢;have:=Int.mul_fdiv_add_fmod (t*a) S
  omega
theorem Zd3(t:Int)(ws:List Int):ws.sum*(QA t ws).sum+(QI t ws).sum=t*ws.sum:=Zc6 t ws.sum ws
theorem ZfR(t:Int)(ws:List Int):(QI t ws).sum=ws.sum*Xs t ws:=by
 have h:=Zd3 t ws;unfold Xs;rw[Int.mul_sub,Int.mul_comm ws.sum t];omega
theorem XX(t:Int){ws:List Int}(hS:0<ws.sum):∀r∈QI t ws,0<=r/\r<ws.sum:=by
 intro r hr;obtain⟨w,_,rfl⟩:=List.mem_map.1 hr
 exact⟨Int.fmod_nonneg_of_pos _ hS,Int.fmod_lt_of_pos _ hS⟩
theorem YZ(t:Int){ws:List Int}(hS:0<ws.sum):0<=Xs t ws:=by
 have h1:=ZfR t ws;have h2:=QP (fun r hr=>(XX t hS r hr).1);rw[h1] at h2
 rcases Int.lt_or_le (Xs t ws) 0 with h|h
 ·have:=Int.mul_neg_of_pos_of_neg hS h;omega
 ·exact h
theorem ZeX{S:Int}{l:List Int}(h:∀r∈l,0<=r/\r<S):l.sum<=S*(l.countP (fun r=>decide (0<r)):Nat)/\(0<l.sum->l.sum<S*(l.countP (fun r=>decide (0<r)):Nat)):=by
 induction l with
 |nil=>simp
 |cons a l ih=>
  obtain⟨h1,h2⟩:=ih (fun r hr=>h r (by simp[hr]))
  obtain⟨h3,h4⟩:=h a (by simp)
  simp only[List.sum_cons,List.countP_cons]
  by_cases ha:0<a
  ·simp only[ha,decide_true,if_true,Int.natCast_add,Int.mul_add]
   constructor<;>omega
  ·have:a=0:=by omega
   subst this;simp only[Int.lt_irrefl,decide_false,Bool.false_eq_true,if_false,Nat.add_zero,Int.zero_add];exact⟨h1,h2⟩
theorem YO(t:Int){ws:List Int}(hS:0<ws.sum):Xs t ws<=((QI t ws).countP (fun r=>decide (0<r)):Nat):=by
 have h1:=(ZeX (XX t hS)).1;rw[ZfR] at h1;exact Int.le_of_mul_le_mul_left h1 hS
theorem Zc7(rs:List Int)(i k:Nat):(Jb rs i k||Jb rs k i)=true:=by
 unfold Jb;simp only[Bool.or_eq_true,decide_eq_true_eq];omega
theorem Zhb(rs:List Int)(i j k:Nat)(h1:Jb rs i j=true)(h2:Jb rs j k=true):Jb rs i k=true:=by
 unfold Jb at*
 simp only[decide_eq_true_eq] at*
 omega
theorem Jq(rs:List Int):(QV rs).Perm (List.range rs.length):=List.mergeSort_perm _ _
theorem VB(rs:List Int):(QV rs).Nodup:=(Jq rs).nodup_iff.2 List.nodup_range
theorem Zcr(rs:List Int):(QV rs).Pairwise (fun i k=>Jb rs i k=true):=List.pairwise_mergeSort (Zhb rs) (Zc7 rs) _
theorem Jr{rs:List Int}{i:Nat}:i∈QV rs↔i<rs.length:=by rw[(Jq rs).mem_iff];exact List.mem_range
theorem Xt(rs:List Int):(QV rs).length=rs.length:=by rw[(Jq rs).length_eq,List.length_range]
theorem Zhc(rs:List Int)(p:Int->Bool):(List.range rs.length).countP (fun i=>p (rs.getD i 0))=rs.countP p:=by
 induction rs with
 |nil=>simp
 |cons a l ih=>
  rw[List.length_cons,List.range_succ_eq_map,List.countP_cons,List.countP_cons,List.countP_map];simp only[List.getD_cons_zero];rw[<-ih];rfl
theorem ZmL(t:Int){ws:List Int}(hS:0<ws.sum){i:Nat}(hi:i∈upL t ws):0<(QI t ws).getD i 0:=by
 have hm:=YO t hS;have hb:=XX t hS;unfold upL at hi;generalize QI t ws=rs at*;generalize Xs t ws=m at*
 rcases Int.lt_or_le 0 (rs.getD i 0) with h|h
 ·exact h
 exfalso
 obtain⟨k,hk,hki⟩:=List.getElem_of_mem hi
 have hkl:k<(QV rs).length:=by rw[List.length_take] at hk;omega
 have hkm:k<m.toNat:=by rw[List.length_take] at hk;omega
 rw[List.getElem_take] at hki
 have hsplit:(QV rs).countP (fun i=>decide (0<rs.getD i 0))<=k:=by
  rw[<-List.take_append_drop k (QV rs),List.countP_append];have h1:((QV rs).take k).countP (fun i=>decide (0<rs.getD i 0))<=k:=Nat.le_trans List.countP_le_length (by rw[List.length_take];omega)
  have h2:((QV rs).drop k).countP (fun i=>decide (0<rs.getD i 0))=0:=by
   rw[List.countP_eq_zero];intro j hj;obtain⟨l,hl,hlj⟩:=List.getElem_of_mem hj
   rw[List.getElem_drop] at hlj;have hl':k+l<(QV rs).length:=by rw[List.length_drop] at hl;omega
   have hle:rs.getD j 0<=rs.getD i 0:=by
    rcases Nat.eq_zero_or_pos l with e|e
    ·subst e;have e2:i=j:=hki.symm.trans hlj;rw[e2];exact Int.le_refl _
    ·have:=List.pairwise_iff_getElem.1 (Zcr rs) k (k+l) hkl hl' (by omega)
     rw[hki,hlj] at this;unfold Jb at this;simp only[decide_eq_true_eq] at this;omega
   simp only[decide_eq_true_eq];omega
  omega
 rw[(Jq rs).countP_eq,Zhc rs (fun r=>decide (0<r))] at hsplit;omega
theorem ZiK(t:Int){ws:List Int}(hS:0<ws.sum):((upL t ws).length:Int)=Xs t ws:=by
 have h1:=YO t hS;have h2:=YZ t hS;have h3:(QI t ws).countP (fun r=>decide (0<r))<=(QI t ws).length:=List.countP_le_length;unfold upL;rw[List.length_take,Xt];omega
theorem VP(t:Int)(ws:List Int):(Xz t ws).length=ws.length:=by simp[Xz,QA]
theorem ZfS(t:Int)(ws:List Int)(i:Nat)(hi:i<ws.length):(Xz t ws)[i]?=some (if i∈upL t ws then(t*ws[i]).fdiv ws.sum+1 else(t*ws[i]).fdiv ws.sum):=by
 simp[Xz,QA,hi]
theorem Zd4(l:List Int)(P:Nat->Prop)[DecidablePred P]:(l.mapIdx fun i b=>if P i then b+1 else b).sum=l.sum+((List.range l.length).countP (fun i=>decide (P i)):Nat):=by
 induction l generalizing P with
 |nil=>simp
 |cons a l ih=>
  rw[List.mapIdx_cons,List.sum_cons,List.sum_cons,List.length_cons,List.range_succ_eq_map,List.countP_cons,List.countP_map];have:=ih (fun i=>P (i+1))
  rw[this];have e:((fun i=>decide (P i)) ∘ Nat.succ)=fun i=>decide (P (i+1)):=rfl
  rw[e]
  by_cases h0:P 0<;>simp[h0]<;>omega
theorem ZfT(t:Int){ws:List Int}(hS:0<ws.sum):(Xz t ws).sum=t:=by
 unfold Xz;rw[Zd4 (QA t ws) (fun i=>i∈upL t ws)]
 have h1:(List.range (QA t ws).length).countP (fun i=>decide (i∈upL t ws))=(upL t ws).length:=by
  have hl:(QA t ws).length=(QI t ws).length:=by simp[QA,QI]
  rw[hl,<-(Jq (QI t ws)).countP_eq];have hn:=VB (QI t ws);unfold upL;generalize QV (QI t ws)=o at*;generalize (Xs t ws).toNat=m at*;have hd:((o.take m)++(o.drop m)).Nodup:=by rw[List.take_append_drop];exact hn
  rw[List.nodup_append] at hd
  have e:o.countP (fun i=>decide (i∈o.take m))=(o.take m).countP (fun i=>decide (i∈o.take m))+(o.drop m).countP (fun i=>decide (i∈o.take m)):=by
   rw[<-List.countP_append,List.take_append_drop]
  rw[e,List.countP_eq_length.2 (fun a ha=>by simpa using ha),List.countP_eq_zero.2 (fun a ha=>by
   simp only[decide_eq_true_eq];intro hm;exact hd.2.2 a hm a ha rfl)]
  rfl
 rw[h1,ZiK t hS];unfold Xs;omega
end
section
open Go.RowKit Go.Shelf
def Qw(ws:List (List UInt8)):Int:=(ws.map val).sum
theorem ZiL(ws:List (List UInt8))(x:List UInt8):Qw (ws++[x])=Qw ws+val x:=by
 unfold Qw;rw[List.map_append,XW];simp
theorem Zb3{ws:List (List UInt8)}{k:Nat}{x:List UInt8}(h:ws[k]?=some x):Qw (ws.take (k+1))=Qw (ws.take k)+val x:=by
 obtain⟨hk,rfl⟩:=List.getElem?_eq_some_iff.1 h
 rw[List.take_succ_eq_append_getElem hk,ZiL]
theorem ZfU{ws:List (List UInt8)}{L:Nat}(h:∀x∈ws,x.length<=L):(Qw ws).natAbs<=ws.length*10^L:=by
 unfold Qw
 induction ws with
 |nil=>simp
 |cons a l ih=>
  have h1:=ih (fun x hx=>h x (by simp[hx]));have h2:=Qz (h a (by simp));simp only[List.map_cons,List.sum_cons,List.length_cons,Nat.succ_mul];omega
theorem ZfV{ws:List (List UInt8)}{L:Nat}(h:∀x∈ws,x.length<=L)(hn:ws.length<=9999):(Qa (Qw ws)).length<=L+5:=by
 refine Qd (L:=L+4) ?_;have h1:=ZfU h;have h2:ws.length*10^L<10^4*10^L:=Nat.mul_lt_mul_of_pos_right (by omega) (Nat.pow_pos (by omega));rw[Nat.pow_add,Nat.mul_comm (10^L)];omega
theorem YP{ws:List (List UInt8)}{L:Nat}(h:∀x∈ws,x.length<=L)(hn:ws.length<=9999)(k:Nat):(Qa (Qw (ws.take k))).length<=L+5:=
 ZfV (fun x hx=>h x (List.mem_of_mem_take hx)) (by rw[List.length_take];omega)
end
section
open Go.RowKit Go.Shelf
structure Lot where
 id:List UInt8
 inst:List UInt8
 acq:Int
 opn:Int
 q:List UInt8
 c:List UInt8
 u:List UInt8
deriving DecidableEq
def QJ(a:List UInt8):Bool:=decide (a=Qa (val a))
theorem Ys(n:Int):QJ (Qa n)=true:=by unfold QJ;rw[Qc];simp
def Js(c:UInt8):Bool:=(decide (97<=c)&&decide (c<=122))||(decide (48<=c)&&decide (c<=57))||c==95
def QG(s:List UInt8):Bool:=decide (s≠[])&&decide (s.length<=16)&&s.all Js
def Zaf(s:List UInt8):Bool:=decide (1<=s.length)&&decide (s.length<=4)&&decide (s.head?≠some 48)&&s.all Qx
def idB(s:List UInt8):Bool:=decide (47∈s)&&QG (s.takeWhile (·!=47))&&Zaf ((s.dropWhile (·!=47)).drop 1)
def XP(d:Int):Bool:=decide (-25567<=d)&&decide (d<=84005)
def Yx(l:Lot):Int:=
 if !(idB l.id&&QG l.inst) then 23 else if !(XP l.acq&&XP l.opn) then 13 else if l.opn<l.acq then 8
 else if !(QJ l.q&&QJ l.c&&QJ l.u) then 1 else if val l.q<=0\/val l.c<0\/(l.u≠[]/\l.u≠l.q) then 2 else 0
def VC(seen:List (List UInt8)):List Lot->Int
 |[]=>0
 |x::l=>if Yx x≠0 then Yx x else if x.id∈seen then 5 else VC (x.id::seen) l
def Xl(l:List Lot):Int:=if 1000<l.length then 4 else VC [] l
structure Lot.Ok (l:Lot):Prop where
 id:idB l.id=true
 inst:QG l.inst=true
 acq:XP l.acq=true
 opn:XP l.opn=true
 ord:l.acq<=l.opn
 q:QJ l.q=true
 c:QJ l.c=true
 q0:0<val l.q
 c0:0<=val l.c
 u:l.u=[]\/l.u=l.q
theorem ZeY(l:Lot):Yx l=0↔l.Ok:=by
 unfold Yx
 constructor
 ·intro h
  split at h
  ·cases h
  rename_i h1
  split at h
  ·cases h
  rename_i h2
  split at h
  ·cases h
  rename_i h3
  split at h
  ·cases h
  rename_i h4
  split at h
  ·cases h
  rename_i h5
  simp only[Bool.not_eq_true',Bool.not_eq_false,Bool.and_eq_true] at h1 h2 h4;simp only[not_or,not_and,Int.not_le,Int.not_lt] at h5;refine⟨h1.1,h1.2,h2.1,h2.2,by omega,h4.1.1,h4.1.2,h5.1,h5.2.1,?_⟩
  by_cases hu:l.u=[]
  ·exact .inl hu
  ·exact .inr (Classical.not_not.1 (h5.2.2 hu))
 ·intro h;rw[if_neg (by simp[h.id,h.inst]),if_neg (by simp[h.acq,h.opn]),if_neg (by have:=h.ord;omega),if_neg,if_neg]
  ·simp only[not_or,not_and,Int.not_le,Int.not_lt];refine⟨h.q0,h.c0,fun hu=> ?_⟩
   rcases h.u with e|e
   ·exact absurd e hu
   ·exact fun hn=>hn e
  ·have hcu:QJ l.u=true:=by
    rcases h.u with e|e
    ·rw[e];decide+kernel
    ·rw[e];exact h.q
   simp[h.q,h.c,hcu]
theorem ZjX(seen:List (List UInt8))(l:List Lot):VC seen l=0↔(∀x∈l,x.Ok)/\(l.map (·.id)).Nodup/\∀x∈l,x.id ∉ seen:=by
 induction l generalizing seen with
 |nil=>simp[VC]
 |cons a l ih=>
  unfold VC
  by_cases h1:Yx a≠0
  ·rw[if_pos h1]
   constructor
   ·intro h;exact absurd h h1
   ·intro h;exact absurd ((ZeY a).2 (h.1 a (by simp))) h1
  ·rw[if_neg h1]
   by_cases h2:a.id∈seen
   ·rw[if_pos h2]
    constructor
    ·intro h;cases h
    ·intro h;exact absurd h2 (h.2.2 a (by simp))
   ·rw[if_neg h2,ih];have h1':Yx a=0:=Classical.not_not.1 h1
    constructor
    ·intro⟨ha,hb,hc⟩
     refine⟨?_,?_,?_⟩
     ·intro x hx
      rcases List.mem_cons.1 hx with rfl|hx
      ·exact(ZeY _).1 h1'
      ·exact ha x hx
     ·rw[List.map_cons,List.nodup_cons];refine⟨?_,hb⟩;intro hm;obtain⟨x,hx,e⟩:=List.mem_map.1 hm
      exact hc x hx (by simp[e])
     ·intro x hx
      rcases List.mem_cons.1 hx with rfl|hx
      ·exact h2
      ·exact fun hs=>hc x hx (by simp[hs])
    ·intro⟨ha,hb,hc⟩
     rw[List.map_cons,List.nodup_cons] at hb;refine⟨fun x hx=>ha x (by simp[hx]),hb.2,fun x hx=> ?_⟩;simp only[List.mem_cons,not_or];exact⟨fun e=>hb.1 (List.mem_map.2 ⟨x,hx,e⟩),hc x (by simp[hx])⟩
structure LotsOk (l:List Lot):Prop where
 len:l.length<=1000
 ok:∀x∈l,x.Ok
 ids:(l.map (·.id)).Nodup
theorem VQ(l:List Lot):Xl l=0↔LotsOk l:=by
 unfold Xl
 split
 ·rename_i h
  exact⟨(fun e=>absurd e (by decide)),(fun e=>absurd e.len (by omega))⟩
 ·rename_i h
  rw[ZjX];exact⟨fun e=>⟨by omega,e.1,e.2.1⟩,fun e=>⟨e.ok,e.ids,fun x _=>by simp⟩⟩
def leS(a b:List UInt8):Bool:=Op.bytesLess a b||a==b
def Xj(l:List Lot)(i:List UInt8):Nat:=l.length-(l.reverse.takeWhile (fun y=> !leS y.inst i)).length
def XG(l:List Lot)(x:Lot):List Lot:=l.take (Xj l x.inst)++x::l.drop (Xj l x.inst)
def Yt(l:List Lot)(x:Lot):List Lot×Int:=
 if Xl l≠0 then([],1) else if Yx x≠0 then([],Yx x) else if x.id∈l.map (·.id) then([],5) else if 1000<=l.length then([],4) else(XG l x,0)
def Qb(l:List Lot)(i:List UInt8):List Lot:=l.filter (fun x=>x.inst==i)
end
section
open Go.RowKit Go.Shelf Go.Sort
def ZiO(rs:List Int)(i k:Nat):Int:=if Qy (rs.getD k 0-rs.getD i 0)≠0 then Qy (rs.getD k 0-rs.getD i 0) else Lib.compareInt i k
def Zhg(n:Nat)(i:Fin n):Value:=.int .i64 (i.val:Nat)
def Zf0(rs:List Int)(n:Nat)(x y:Fin n):Int:=ZiO rs x.val y.val
theorem ltF(rs:List Int)(n:Nat)(x y:Fin n):ltOf (Zf0 rs n) x y= !Jb rs y.val x.val:=by
 unfold ltOf Zf0 ZiO Jb Qy Lib.compareInt;generalize rs.getD x.val 0=a;generalize rs.getD y.val 0=b;rw[Bool.eq_iff_iff];simp only[decide_eq_true_eq,Bool.not_eq_true',decide_eq_false_iff_not]
 repeat' split
 all_goals omega
theorem ZnK(rs:List Int)(n:Nat):SWO (ltOf (Zf0 rs n)) where
 irrefl x:=by rw[ltF];unfold Jb;simp
 trans x y z h1 h2:=by rw[ltF] at *; unfold Jb at *; simp only[Bool.not_eq_true',decide_eq_false_iff_not] at *; omega
 ntrans x y z h1 h2:=by rw[ltF] at *; unfold Jb at *; simp only[Bool.not_eq_false',decide_eq_true_eq] at *; omega
theorem ZnL(rs:List Int)(n:Nat)(x y:Fin n)(h1:ltOf (Zf0 rs n) x y=false)(h2:ltOf (Zf0 rs n) y x=false):x=y:=by
 rw[ltF] at*
 unfold Jb at*
 simp only[Bool.not_eq_false',decide_eq_true_eq] at*
 apply Fin.ext
 omega
def Zd7(n:Nat):Array (Fin n):=(List.finRange n).toArray
theorem Zb6(n:Nat):(Zd7 n).size=n:=by simp[Zd7]
theorem Zj6(n:Nat):(Zd7 n).toList.map Fin.val=List.range n:=by
 unfold Zd7;refine List.ext_getElem (by simp) fun i h1 h2=> ?_
 simp
theorem Zhh(rs:List Int)(n:Nat)(hn:rs.length=n):((Zd7 n).toList.mergeSort fun x y=> !ltOf (Zf0 rs n) y x).map Fin.val=QV rs:=by
 unfold QV;rw[List.map_mergeSort (s:=Jb rs),Zj6,hn];intro a _ b _;rw[ltF];simp
def Zaj(l:List Nat):Array Value:=(l.map fun k=>Value.int .i64 (k:Nat)).toArray
theorem ZiP(n:Nat)[Inhabited (Fin n)]{w:World}{p:Nat}{T:TypeId}(hB:BlkB w p (Zaj (List.range n)) T):Holds (Zhg n) w p 0 (Zd7 n):=by
 intro j hj;rw[Zb6] at hj;refine⟨?_,hB.frozen _⟩;rw[Nat.zero_add];refine hB.cell j ?_
 have h1:(Zd7 n)[j]! =⟨j,hj⟩:=by
  rw[getElem!_pos _ j (by rw[Zb6];exact hj)];simp[Zd7]
 rw[h1];simp[Zaj,Zhg,hj]
theorem Ze0(n:Nat)[Inhabited (Fin n)](cur:Array Value)(l:List (Fin n))(hc:cur.size=n)(hl:l.length=n):putCells (Zhg n) 0 l.toArray cur=Zaj (l.map Fin.val):=by
 apply Array.ext_getElem?
 intro k;simp only[putCells,Array.getElem?_mapIdx,Zaj,List.getElem?_toArray,List.getElem?_map,List.map_map]
 by_cases hk:k<n
 ·have h1:cur[k]?=some cur[k]:=Array.getElem?_eq_getElem (by omega);rw[h1];have h2:l[k]?=some l[k]:=List.getElem?_eq_getElem (by omega);simp only[Option.map_some,Nat.zero_le,true_and,Nat.zero_add,Nat.sub_zero,h2];rw[if_pos (by simp;omega)];have h3:l.toArray[k]! =l[k]:=by rw[getElem!_pos _ k (by simp;omega)];simp
  rw[h3];rfl
 ·rw[Array.getElem?_eq_none (by omega),List.getElem?_eq_none (by omega)];rfl
theorem ZaR(n:Nat)[Inhabited (Fin n)]{w:World}{g m:Nat}{os:Array Obj}(d:Array (Fin n)):w.grownBy (sortWorld (Zhg n) w g 0 m d os) (some g):=by
 refine⟨rfl,rfl,rfl,by simp[sortWorld],fun k hk hne=> ?_⟩;unfold sortWorld;rw[heap_grow_old _ _ (by simpa using hk)];have:g≠k:=fun e=>hne (by rw[e])
 simp[putRow,mapBlock,Sort.ahead,Array.getElem?_modify,this]
theorem ZiQ(n:Nat)[Inhabited (Fin n)]{w:World}{p m:Nat}{T:TypeId}{cur:Array Value}{os:Array Obj}(l:List (Fin n))(hB:BlkB w p cur T)(hc:cur.size=n)(hl:l.length=n):BlkB (sortWorld (Zhg n) w p 0 m l.toArray os) p (Zaj (l.map Fin.val)) T:=by
 unfold BlkB sortWorld;have hg:=hB.lt;rw[heap_grow_old _ _ (by simpa using hg)];unfold BlkB at hB;simp only[putRow,mapBlock,Sort.ahead,Array.getElem?_modify,hB,onCells,if_pos,Option.map_some];rw[Ze0 n cur l hc hl]
theorem Zb7{w w':World}{B p:Nat}(h:w.grownBy w' (some p))(hB:B<=p)(hs:B<=w.1.size):Below B w w':=
 ⟨h.os,h.tape,h.output,h.size,fun k hk=>h.block k (by omega) (fun e=>by injection e with e;omega)⟩
theorem Zj7{P:Program}{ρ:Ren}(L:SlLaysF.n6 P ρ)(g:Nat)(cb:Array Value)(rs:List Int)(n p cap:Nat)(W:World)(T:TypeId)(hn:rs.length=n)(h0:0<n)(h1:n<4611686018427387904)
 (eg:∀args w,(callFunc g args).run P w=.ok (.enter g args) w) (hB:BlkB W p (Zaj (List.range n)) T)
 (hcmp:∀W',W.grownBy W' (some p)->∀x y:Nat,x<n->y<n->Calls P g (#[.int .i64 x,.int .i64 y]++cb) W' fun e w'=>e=.returned (.int .i64 (ZiO rs x y))/\Below W'.1.size W' w'):
 Calls P (ρ.f 6) #[.slice (some ⟨p,0,none⟩) n cap,.func (.func g) #[] cb] W fun e w'=>e=.returned (.tuple #[])/\W.grownBy w' (some p)/\BlkB w' p (Zaj (QV rs)) T:=by
 obtain⟨m,rfl⟩:∃m,n=m+1:=⟨n-1,by omega⟩
 have hsz:=Zb6 (m+1)
 have h:=Any.slices_SortFunc_total L (Zhg (m+1)) (fun _=>rfl) (Zf0 rs (m+1)) (ZnK rs (m+1)) g cb p 0 cap (Zd7 (m+1)) W eg
  (fun q os dk _ x y=>by
    have h2:=ZfZ (hcmp (sortWorld (Zhg (m+1)) W p 0 q dk os) (ZaR (m+1) dk) x.val y.val x.isLt y.isLt) (fun w' hw=>by cases hw.1);refine h2.mono fun e w' h3=>⟨h3.1.1,Zd6 h3.1.2 h3.2⟩)
  (ZiP (m+1) hB) hB.lt (by rw[hsz];exact h1) (ZnL rs (m+1))
 rw[hsz] at h;refine h.mono ?_;rintro e w' ⟨he,q,os,rfl⟩;refine⟨he,ZaR (m+1) _,?_⟩;have h3:=ZiQ (m+1) (w:=W) (p:=p) (m:=q) (T:=T) (os:=os) ((Zd7 (m+1)).toList.mergeSort fun x y=> !ltOf (Zf0 rs (m+1)) y x) hB (by simp[Zaj]) (by simp[hsz]);rw[Zhh rs (m+1) hn] at h3;exact h3
section
variable {w W W':World} {p i:Nat} {cs ds:Array Value} {T:TypeId} {bs:List (Nat×Array Value×TypeId)}
theorem Kp.grown(h:Kp w bs W)(hg:W.grownBy W' (some p))(hb:bs[i]?=some (p,cs,T))(hd:BlkB W' p ds T):Kp w (bs.set i (p,ds,T)) W':=by
 have hm:(bs.set i (p,ds,T)).map (·.1)=bs.map (·.1):=by
  refine List.ext_getElem? fun k=> ?_
  rw[List.getElem?_map,List.getElem?_map,List.getElem?_set]
  split
  ·rename_i e
   subst e;rw[hb]
   split
   ·rfl
   ·rename_i e2;exact absurd (List.getElem?_eq_some_iff.1 hb).1 e2
  ·rfl
 refine⟨h.pow,h.bl.trans (Zb7 hg (h.old i hb) h.bl.size),?_,by rw[hm];exact h.ord,?_⟩
 ·intro b hx
  rcases List.mem_or_eq_of_mem_set hx with hx|rfl
  ·exact h.own b hx
  ·exact h.old i hb
 ·intro b hx;obtain⟨k,hk⟩:=List.getElem?_of_mem hx
  rw[List.getElem?_set] at hk
  split at hk
  ·split at hk
   ·injection hk with hk;subst hk;exact hd
   ·cases hk
  ·rename_i hik
   obtain⟨q,es,U⟩:=b
   have hq:=h.at_ k hk;have hne:=h.ne k i hk hb (fun e=>hik e.symm);exact(hg.block q hq.lt (fun e=>hne (by injection e))).trans hq
end
end
section
open Go.RowKit Go.Shelf
structure Mp where
 cause:List UInt8
 day:Int
 inst:List UInt8
 other:List UInt8
 ratio:Fr
 share:Fr
 price:Fr
 keep:Bool
deriving DecidableEq
def JE(m:Mp):Int:=
 if !(QG m.cause&&QG m.inst&&QG m.other) then 23 else if !XP m.day then 13 else if ¬(m.ratio.ok/\m.share.ok/\m.price.ok) then 1
 else if m.ratio.rat<=0\/m.share.rat<0\/1<m.share.rat\/m.price.rat<0 then 2 else if m.keep=true/\m.other=m.inst then 18 else if m.keep=false/\m.share.rat≠1 then 9 else 0
structure Mp.Ok (m:Mp):Prop where
 cause:QG m.cause=true
 inst:QG m.inst=true
 other:QG m.other=true
 day:XP m.day=true
 ratio:m.ratio.ok
 share:m.share.ok
 price:m.price.ok
 r0:0<m.ratio.rat
 s0:0<=m.share.rat
 s1:m.share.rat<=1
 p0:0<=m.price.rat
 keep:m.keep=true->m.other≠m.inst
 all:m.keep=false->m.share.rat=1
theorem Za1(m:Mp):JE m=0↔m.Ok:=by
 unfold JE
 constructor
 ·intro h
  split at h
  ·cases h
  rename_i h1
  split at h
  ·cases h
  rename_i h2
  split at h
  ·cases h
  rename_i h3
  split at h
  ·cases h
  rename_i h4
  split at h
  ·cases h
  rename_i h5
  split at h
  ·cases h
  rename_i h6
  simp only[Bool.not_eq_true',Bool.not_eq_false,Bool.and_eq_true] at h1 h2;have h3:=Classical.not_not.1 h3;simp only[not_or,Rat.not_le,Rat.not_lt] at h4;exact⟨h1.1.1,h1.1.2,h1.2,h2,h3.1,h3.2.1,h3.2.2,h4.1,h4.2.1,h4.2.2.1,h4.2.2.2,fun a b=>h5 ⟨a,b⟩,fun a=>Classical.not_not.1 (fun b=>h6 ⟨a,b⟩)⟩
 ·intro h;rw[if_neg (by simp[h.cause,h.inst,h.other]),if_neg (by simp[h.day]),if_neg (by simp[h.ratio,h.share,h.price]),if_neg,if_neg,if_neg]
  ·exact fun a=>a.2 (h.all a.1)
  ·exact fun a=>h.keep a.1 a.2
  ·simp only[not_or,Rat.not_le,Rat.not_lt];exact⟨h.r0,h.s0,h.s1,h.p0⟩
def Yg(t:Int)(ws:List Int):List Int:=if ws.sum=0 then ws.map (fun _=>0) else Xz t ws
theorem Zcv(t:Int)(ws:List Int):(Yg t ws).length=ws.length:=by
 unfold Yg
 split
 ·simp
 ·exact VP t ws
theorem Zdf{t w S:Int}(hS:0<S)(hw:0<=w)(ht:t<=S):(t*w).fdiv S<=w/\(0<(t*w).fmod S->(t*w).fdiv S+1<=w):=by
 have h1:=Int.mul_fdiv_add_fmod (t*w) S;have h2:=Int.fmod_nonneg_of_pos (t*w) hS;have h3:t*w<=S*w:=Int.mul_le_mul_of_nonneg_right ht hw;generalize (t*w).fdiv S=d at*;generalize (t*w).fmod S=r at*
 constructor
 ·have:S*d<=S*w:=by omega
  exact Int.le_of_mul_le_mul_left this hS
 ·intro hr;have:S*d<S*w:=by omega
  have:=Int.lt_of_mul_lt_mul_left this (Int.le_of_lt hS)
  omega
theorem Zak{t:Int}{ws:List Int}(ht:0<=t)(hw:∀w∈ws,0<=w)(hS:0<ws.sum){i:Nat}{x w:Int}(hi:(Xz t ws)[i]?=some x)(hwi:ws[i]?=some w):
 0<=x/\(t<=ws.sum->x<=w):=by
 obtain⟨hlt,e⟩:=List.getElem?_eq_some_iff.1 hwi
 have hw0:0<=w:=hw w (List.mem_of_getElem? hwi);rw[ZfS t ws i hlt,e] at hi;have h0:0<=(t*w).fdiv ws.sum:=Int.fdiv_nonneg (Int.mul_nonneg ht hw0) (Int.le_of_lt hS);injection hi with hi
 by_cases hu:i∈upL t ws
 ·rw[if_pos hu] at hi;refine⟨by omega,fun hts=> ?_⟩;have hr:=ZmL t hS hu
  have hr2:(QI t ws).getD i 0=(t*w).fmod ws.sum:=by
   unfold QI;rw[List.getD_eq_getElem?_getD,List.getElem?_map,hwi];rfl
  rw[hr2] at hr;have:=(Zdf hS hw0 hts).2 hr
  omega
 ·rw[if_neg hu] at hi;exact⟨by omega,fun hts=>by have:=(Zdf hS hw0 hts).1;omega⟩
theorem Zbw{l:List Int}(h:∀x∈l,0<=x)(hs:l.sum=0):∀x∈l,x=0:=by
 intro x hx;have h1:=h x hx;have h2:=ZaF h hx;omega
theorem Vb{t:Int}{ws:List Int}(ht:0<=t)(hw:∀w∈ws,0<=w){i:Nat}{x w:Int}(hi:(Yg t ws)[i]?=some x)(hwi:ws[i]?=some w):
 0<=x/\(t<=ws.sum->x<=w):=by
 unfold Yg at hi
 split at hi
 ·rename_i h0
  rw[List.getElem?_map,hwi] at hi;have hi:(0:Int)=x:=Option.some.inj hi;have:=hw w (List.mem_of_getElem? hwi)
  exact⟨by omega,fun _=>by omega⟩
 ·rename_i h0
  have hs:=QP hw;exact Zak ht hw (by omega) hi hwi
theorem Zbx{t:Int}{ws:List Int}(hw:∀w∈ws,0<=w)(h:0<ws.sum\/t=0):(Yg t ws).sum=t:=by
 unfold Yg
 split
 ·rename_i h0
  rcases h with h|h
  ·omega
  ·subst h;generalize ws=l
   induction l with
   |nil=>rfl
   |cons a l ih=>simpa using ih
 ·rename_i h0
  have hs:=QP hw;exact ZfT t (by omega)
theorem XH{t:Int}{ws:List Int}(ht:0<=t)(hw:∀w∈ws,0<=w):∀x∈Yg t ws,0<=x:=by
 intro x hx;obtain⟨i,hi⟩:=List.getElem?_of_mem hx
 have hlt:=(List.getElem?_eq_some_iff.1 hi).1;rw[Zcv] at hlt;exact(Vb ht hw hi (List.getElem?_eq_getElem hlt)).1
def Vm(t p a:Int):Int:=JY (Rat.divInt (t*p) a)
structure Plan where
 exact:Rat
 parts:Int
 part:Rat
 moved:Int
 taken:Int
 cash:Int
 n:List Int
 m:List Int
 f:List Int
 p:List Int
def Qe(old:List Lot)(m:Mp):Plan:=
 let qs:=old.map fun x=>val x.q
 let cs:=old.map fun x=>val x.c
 let ex:Rat:=((qs.sum:Int):Rat)*m.ratio.rat
 let moved:=JY (m.share.rat*((cs.sum:Int):Rat))
 let part:=ex-((QK ex:Int):Rat)
 let taken:=if part=0 then 0 else if QK ex=0 then moved else Vm moved (Yr ex) ex.num
 let cash:=JY (part*m.price.rat)
 {exact:=ex,parts:=QK ex,part:=part,moved:=moved,taken:=taken,cash:=cash,n:=Yg (QK ex) qs,m:=Yg moved cs,f:=Yg taken (Yg moved cs),p:=Yg cash qs}
theorem JI(q:Rat):q=Rat.divInt q.num q.den:=(Rat.num_divInt_den q).symm
theorem ZaI(q:Rat):q-((QK q:Int):Rat)=Rat.divInt (Yr q) q.den:=by
 have hd:(q.den:Int)≠0:=by have:=q.den_nz;omega
 have h:=Zbq q;rw[Int.mul_comm] at h;have e:((QK q:Int):Rat)=Rat.divInt (QK q) 1:=(Xw (QK q)).symm;rw[e]
 conv=>lhs;lhs;rw[JI q]
 rw[Rat.divInt_sub_divInt _ _ hd (by omega)]
 congr 1
 ·omega
 ·omega
theorem Zf2(q:Rat):Yr q=0↔q-((QK q:Int):Rat)=0:=by
 rw[ZaI];have hd:(q.den:Int)≠0:=by have:=q.den_nz;omega
 constructor
 ·intro h;rw[h,Rat.zero_divInt]
 ·intro h;have h2:Rat.divInt (Yr q) q.den=Rat.divInt 0 1:=by rw[h];rfl
  rw[Rat.divInt_eq_divInt_iff hd (by omega)] at h2;omega
theorem JJ{q:Rat}(h:0<=q):0<=QK q:=Int.fdiv_nonneg (Rat.num_nonneg.2 h) (by omega)
theorem Zcw(q:Rat):0<=q-((QK q:Int):Rat):=by
 rw[ZaI,<-Rat.num_nonneg,Rat.num_divInt];obtain⟨h1,h2⟩:=XL q
 have hd:(0:Int)<q.den:=by omega
 rw[Int.sign_eq_one_of_pos hd,Int.one_mul];exact Int.ediv_nonneg h1 (by omega)
theorem JK(q:Rat):QK q<=JY q/\(JY q=QK q\/(JY q=QK q+1/\Yr q≠0)):=by
 unfold JY
 split
 ·rename_i h
  have:=XL q
  exact⟨by omega,.inr ⟨rfl,by omega⟩⟩
 ·exact⟨by omega,.inl rfl⟩
theorem Za2{q:Rat}(h:0<=q):0<=JY q:=by
 have:=JJ h
 have:=(JK q).1
 omega
theorem Zkd{n d k:Int}(hd:0<d)(h:n<=k*d):JY (Rat.divInt n d)<=k:=by
 have hf:=Zbp n d (by omega);have h1:=Int.mul_fdiv_add_fmod n d;have h2:=Int.fmod_nonneg_of_pos n hd;obtain⟨h3,h4⟩:=JK (Rat.divInt n d)
 have hle:n.fdiv d<=k:=by
  have:d*n.fdiv d<=d*k:=by rw[Int.mul_comm d k];omega
  exact Int.le_of_mul_le_mul_left this hd
 rcases h4 with h4|⟨h4,h5⟩
 ·omega
 ·rcases Int.lt_or_eq_of_le hle with h6|h6
  ·omega
  ·-- then n is k*d,and nothing remains
   exfalso
   have hn:n=k*d:=by
    rw[h6,Int.mul_comm d k] at h1;omega
   apply h5
   subst hn
   have e:Rat.divInt (k*d) d=((k:Int):Rat):=by
    rw[<-Xw k,Rat.divInt_eq_divInt_iff (by omega) (by omega)];omega
   rw[e];unfold Yr;simp
theorem Zie(k:Int):JY ((k:Int):Rat)=k:=by
 have h:Yr ((k:Int):Rat)=0:=by unfold Yr;simp
 have h2:QK ((k:Int):Rat)=k:=by unfold QK;simp
 unfold JY;rw[h,h2,if_neg];simp
structure PlanOk (old:List Lot) (m:Mp) (x:Plan):Prop where
 ex:x.exact=((((old.map fun y=>val y.q).sum:Int)):Rat)*m.ratio.rat
 exact0:0<=x.exact
 parts0:0<=x.parts
 part0:0<=x.part
 moved0:0<=x.moved
 moved1:x.moved<=(old.map fun y=>val y.c).sum
 all:m.keep=false->x.moved=(old.map fun y=>val y.c).sum
 taken0:0<=x.taken
 taken1:x.taken<=x.moved
 whole:x.part=0->x.taken=0
 none:x.part≠0->x.parts=0->x.taken=x.moved
 cash0:0<=x.cash
 cash1:x.part=0->x.cash=0
theorem YJ{old:List Lot}(h:∀y∈old,y.Ok):(∀z∈old.map (fun y=>val y.q),0<=z)/\∀z∈old.map (fun y=>val y.c),0<=z:=by
 constructor
 ·intro z hz;obtain⟨y,hy,rfl⟩:=List.mem_map.1 hz
  have:=(h y hy).q0
  omega
 ·intro z hz;obtain⟨y,hy,rfl⟩:=List.mem_map.1 hz
  exact(h y hy).c0
theorem Zal{k:Int}(h:0<=k):(0:Rat)<=(k:Rat):=by exact_mod_cast h
theorem Zhi{s:Rat}{k:Int}(hs:s<=1)(hk:0<=k):JY (s*(k:Rat))<=k:=by
 have hd:(0:Int)<s.den:=by have:=s.den_pos;omega
 have e:s*(k:Rat)=Rat.divInt (s.num*k) s.den:=by
  conv=>lhs;rw[JI s,<-Xw k]
  rw[Rat.divInt_mul_divInt,Int.mul_one]
 rw[e];refine Zkd hd ?_
 have hn:s.num<=s.den:=by
  have h1:s=Rat.divInt s.num s.den:=JI s;have h2:¬(1:Rat)<s:=Rat.not_lt.2 hs;have h3:(1:Rat)=Rat.divInt 1 1:=rfl;rw[h1,h3,YI _ _ (by omega) hd] at h2;omega
 rw[Int.mul_comm k];exact Int.mul_le_mul_of_nonneg_right hn hk
theorem Jt{old:List Lot}{m:Mp}(h:∀y∈old,y.Ok)(hm:m.Ok):PlanOk old m (Qe old m):=by
 obtain⟨hq,hc⟩:=YJ h
 have hqs:=QP hq;have hcs:=QP hc;have hex:(0:Rat)<=((((old.map fun y=>val y.q).sum:Int)):Rat)*m.ratio.rat:=Rat.mul_nonneg (Zal hqs) (Rat.le_of_lt hm.r0);have hmv:(0:Rat)<=m.share.rat*((((old.map fun y=>val y.c).sum:Int)):Rat):=Rat.mul_nonneg hm.s0 (Zal hcs);have hm0:=Za2 hmv;have hpt:=Zcw (((((old.map fun y=>val y.q).sum:Int)):Rat)*m.ratio.rat)
 have hshr:∀mv:Int,0<=mv->∀ex:Rat,0<=ex->QK ex≠0->0<=Vm mv (Yr ex) ex.num/\Vm mv (Yr ex) ex.num<=mv:=by
  intro mv hmv ex hex hne;have h1:=Zbq ex;obtain⟨h2,h3⟩:=XL ex
  have h4:=JJ hex;have h5:(0:Int)<=ex.den*QK ex:=Int.mul_nonneg (by omega) h4;have h6:(0:Int)<ex.den*QK ex:=Int.mul_pos (by omega) (by omega);have hn:0<ex.num:=by omega
  have hle:Yr ex<=ex.num:=by omega
  unfold Vm
  constructor
  ·refine Za2 ?_;rw[<-Rat.num_nonneg,Rat.num_divInt,Int.sign_eq_one_of_pos hn,Int.one_mul];exact Int.ediv_nonneg (Int.mul_nonneg hmv h2) (by omega)
  ·exact Zkd hn (Int.mul_le_mul_of_nonneg_left hle hmv)
 refine⟨rfl,hex,JJ hex,hpt,hm0,Zhi hm.s1 hcs,?_,?_,?_,?_,?_,Za2 (Rat.mul_nonneg hpt hm.p0),?_⟩
 ·intro hk
  show JY (m.share.rat*_)=_
  rw[hm.all hk,Rat.one_mul,Zie]
 ·show 0<=ite _ _ _
  split
  ·omega
  ·split
   ·exact hm0
   ·rename_i h1 h2
    exact(hshr _ hm0 _ hex h2).1
 ·show ite _ _ _<=_
  split
  ·exact hm0
  ·split
   ·exact Int.le_refl _
   ·rename_i h1 h2
    exact(hshr _ hm0 _ hex h2).2
 ·intro hp;exact if_pos hp
 ·intro hp h0;exact(if_neg hp).trans (if_pos h0)
 ·intro hp
  show JY (_*_)=0
  have hp':(Qe old m).part=0:=hp;rw[show((((old.map fun y=>val y.q).sum:Int)):Rat)*m.ratio.rat-((QK (((((old.map fun y=>val y.q).sum:Int)):Rat)*m.ratio.rat):Int):Rat)=0 from hp',Rat.zero_mul];exact Zie 0
end
section
open Go.RowKit Go.Shelf
def QD(n:List Int)(i:Nat):Nat:=(n.take i).countP (fun a=>decide (a≠0))
def Plan.mv(x:Plan)(i:Nat):Int:=x.m.getD i 0-x.f.getD i 0
def Plan.rest(x:Plan)(i:Nat):Int:=(((List.range i).filter fun k=>decide (x.n.getD k 0=0)).map x.mv).sum
def QO(c:List UInt8)(k:Nat):List UInt8:=c++47::QN k
def ZcN(m:Mp)(x:Plan)(len i:Nat)(y:Lot):Lot:=
 {id:=QO m.cause (QD x.n i+1),inst:=m.other,acq:=y.acq,opn:=y.opn,q:=Qa (x.n.getD i 0),c:=Qa (x.mv i+if QD x.n i=0 then x.rest len else 0),u:=Qa (x.n.getD i 0)}
def QY(m:Mp)(x:Plan)(old:List Lot)(i:Nat):List (Nat×Lot):=
 (List.range i).filterMap fun k=>match old[k]? with|some y=>if x.n.getD k 0=0 then none else some (k,ZcN m x old.length k y)|none=>none
def QR(m:Mp)(x:Plan)(old:List Lot):List (Nat×Lot):=QY m x old old.length
def QZ(m:Mp)(x:Plan)(old:List Lot):List Lot:=(QR m x old).map (·.2)
def Qn(m:Mp)(ms:List Int):Nat->List Lot->List Lot
 |_,[]=>[]
 |k,y::l=>if y.inst=m.inst then(if m.keep=true then {y with c:=Qa (val y.c-ms.getD k 0)}::Qn m ms (k+1) l else Qn m ms (k+1) l) else y::Qn m ms k l
theorem Yy(m:Mp)(x:Plan)(old:List Lot)(i:Nat):QY m x old (i+1)=QY m x old i++(match old[i]? with|some y=>if x.n.getD i 0=0 then[] else[(i,ZcN m x old.length i y)]|none=>[]):=by
 unfold QY;rw[List.range_succ,List.filterMap_append]
 congr 1
 simp only[List.filterMap_cons,List.filterMap_nil]
 cases old[i]? with
 |none=>rfl
 |some y=>
  by_cases h:x.n.getD i 0=0
  ·simp only[if_pos h]
  ·simp only[if_neg h]
theorem Zdg(m:Mp)(ms:List Int)(k:Nat)(l:List Lot)(y:Lot):Qn m ms k (l++[y])=Qn m ms k l++Qn m ms (k+l.countP (fun z=>decide (z.inst=m.inst))) [y]:=by
 induction l generalizing k with
 |nil=>simp[Qn]
 |cons a l ih=>
  simp only[List.cons_append,Qn,List.countP_cons]
  by_cases h:a.inst=m.inst
  ·simp only[h,if_true,decide_true];rw[ih];have e:k+1+l.countP (fun z=>decide (z.inst=m.inst))=k+(l.countP (fun z=>decide (z.inst=m.inst))+1):=by omega
   rw[e]
   by_cases hk:m.keep=true<;>simp[hk,Qn]
  ·simp only[h,if_false,decide_false,Bool.false_eq_true];rw[ih];simp[Qn]
structure Gain where
 cause:List UInt8
 lot:List UInt8
 inst:List UInt8
 acq:Int
 closed:Int
 q:List UInt8
 proceeds:List UInt8
 cost:List UInt8
 deferred:List UInt8
 replaced:List UInt8
deriving DecidableEq
structure Stp where
 cause:List UInt8
 src:List UInt8
 dst:List UInt8
 q:List UInt8
 made:List UInt8
 cost:List UInt8
deriving DecidableEq
def QT(m:Mp)(x:Plan)(old:List Lot)(i:Nat):List Gain:=
 (List.range i).filterMap fun k=>match old[k]? with
   |some y=>if x.p.getD k 0=0/\x.f.getD k 0=0 then none else some {cause:=m.cause,lot:=y.id,inst:=m.other,acq:=y.acq,closed:=m.day,q:=[],proceeds:=Qa (x.p.getD k 0),cost:=Qa (x.f.getD k 0),deferred:=[],replaced:=[]}
   |none=>none
def Xq(m:Mp)(x:Plan)(old:List Lot):List Gain:=if x.part=0 then[] else QT m x old old.length
def Ye(s:Stp):List Stp:=if s.q=[]/\s.made=[]/\s.cost=[] then[] else[s]
def Zbz(m:Mp)(x:Plan)(k:Nat)(y:Lot):List Stp:=
 let gone:=if m.keep=true then[] else y.q
 if x.parts=0 then Ye {cause:=m.cause,src:=y.id,dst:=[],q:=gone,made:=[],cost:=Qa (x.f.getD k 0)}
 else Ye {cause:=m.cause,src:=y.id,dst:=QO m.cause (if x.n.getD k 0=0 then 1 else QD x.n k+1),q:=gone,made:=Qa (x.n.getD k 0),cost:=Qa (x.mv k)}++
  Ye {cause:=m.cause,src:=y.id,dst:=[],q:=[],made:=[],cost:=Qa (x.f.getD k 0)}
def QW(m:Mp)(x:Plan)(old:List Lot)(i:Nat):List Stp:=(List.range i).flatMap fun k=>match old[k]? with|some y=>Zbz m x k y|none=>[]
def Yh(m:Mp)(x:Plan)(old:List Lot):List Stp:=QW m x old old.length
structure Res where
 lots:List Lot
 gains:List Gain
 steps:List Stp
def Res.none:Res:=⟨[],[],[]⟩
def Xp:List Lot->List Lot->Option (List Lot)
 |l,[]=>some l
 |l,z::zs=>if(Yt l z).2≠0 then none else Xp (Yt l z).1 zs
def Yz(ls:List Lot)(m:Mp):Res×Int:=
 if Xl ls≠0\/JE m≠0 then(Res.none,1)
 else
  let old:=Qb ls m.inst
  let x:=Qe old m
  if old=[] then(⟨ls,[],[]⟩,0)
  else if((QZ m x old).any fun z=>decide (z.id∈ls.map (·.id)))=true then(Res.none,5)
  else match Xp (Qn m x.m 0 ls) (QZ m x old) with
   |some l=>(⟨l,Xq m x old,Yh m x old⟩,0)
   |none=>(Res.none,4)
theorem Zkf(a:List UInt8):leS a a=true:=by unfold leS;simp
theorem Zhl(l:List Lot)(y:Lot)(i:List UInt8):Xj (l++[y]) i=if leS y.inst i=true then l.length+1 else Xj l i:=by
 unfold Xj;rw[List.reverse_append,List.reverse_singleton,List.singleton_append,List.takeWhile_cons]
 cases h:leS y.inst i with
 |true=>simp
 |false=>simp
theorem Zf5(l:List Lot)(i:List UInt8):Xj l i<=l.length:=by unfold Xj;omega
structure CutAt (i:List UInt8) (A B:List Lot):Prop where
 b:∀y∈B,leS y.inst i=false
 a:A=[]\/∃A' y,A=A'++[y]/\leS y.inst i=true
theorem CutAt.at_{i:List UInt8}{A B:List Lot}(h:CutAt i A B):Xj (A++B) i=A.length:=by
 unfold Xj
 have e:((A++B).reverse.takeWhile (fun y=> !leS y.inst i))=B.reverse:=by
  rw[List.reverse_append,List.takeWhile_append_of_pos (fun y hy=>by simp[h.b y (by simpa using hy)])]
  have e2:A.reverse.takeWhile (fun y=> !leS y.inst i)=[]:=by
   rcases h.a with rfl|⟨A',y,rfl,hy⟩
   ·rfl
   ·rw[List.reverse_append];simp[hy]
  rw[e2,List.append_nil]
 rw[e];simp
theorem CutAt.put{A B:List Lot}{x:Lot}(h:CutAt x.inst A B):XG (A++B) x=A++x::B:=by
 unfold XG;rw[h.at_,List.take_left,List.drop_left]
theorem CutAt.next{A B:List Lot}{x:Lot}(h:CutAt x.inst A B):CutAt x.inst (A++[x]) B:=⟨h.b,.inr ⟨A,x,rfl,Zkf _⟩⟩
theorem Zf6(l:List Lot)(i:List UInt8):∃A B,l=A++B/\CutAt i A B:=by
 induction l with
 |nil=>exact⟨[],[],rfl,fun _ h=>by simp at h,.inl rfl⟩
 |cons a l ih=>
  obtain⟨A,B,rfl,h⟩:=ih
  rcases h.a with rfl|⟨A',y,rfl,hy⟩
  ·cases ha:leS a.inst i with
   |true=>exact⟨[a],B,rfl,h.b,.inr ⟨[],a,rfl,ha⟩⟩
   |false=>
    refine⟨[],a::B,rfl,fun y hy=> ?_,.inl rfl⟩
    rcases List.mem_cons.1 hy with rfl|hy
    ·exact ha
    ·exact h.b y hy
  ·exact⟨a::(A'++[y]),B,rfl,h.b,.inr ⟨a::A',y,rfl,hy⟩⟩
theorem LotsOk.put{l:List Lot}{x:Lot}(h:LotsOk l)(hx:x.Ok)(hid:x.id ∉ l.map (·.id))(hl:l.length<1000){A B:List Lot}(e:l=A++B):LotsOk (A++x::B):=by
 subst e;have hp:(A++x::B).Perm (x::(A++B)):=List.perm_middle;refine⟨?_,?_,?_⟩
 ·rw[hp.length_eq];simp at hl ⊢; omega
 ·intro y hy
  rcases List.mem_cons.1 (hp.mem_iff.1 hy) with rfl|hy
  ·exact hx
  ·exact h.ok y hy
 ·rw[(hp.map (·.id)).nodup_iff,List.map_cons,List.nodup_cons];exact⟨hid,h.ids⟩
theorem Zkg{l:List Lot}{x:Lot}(h:LotsOk l)(hx:x.Ok)(hid:x.id ∉ l.map (·.id)):Yt l x=if 1000<=l.length then([],4) else(XG l x,0):=by
 unfold Yt;rw[if_neg (by rw[(VQ l).2 h];simp),if_neg (by rw[(ZeY x).2 hx];simp),if_neg hid]
theorem Za3(i:List UInt8)(zs:List Lot):∀(A B:List Lot),CutAt i A B->LotsOk (A++B)->(∀z∈zs,z.Ok/\z.inst=i/\z.id ∉ (A++B).map (·.id))->(zs.map (·.id)).Nodup->
 Xp (A++B) zs=if zs=[]\/(A++B).length+zs.length<=1000 then some (A++zs++B) else none:=by
 induction zs with
 |nil=>intro A B _ _ _ _;simp[Xp]
 |cons z zs ih=>
  intro A B hc hl hz hn;obtain⟨hok,hi,hid⟩:=hz z (by simp)
  unfold Xp;rw[Zkg hl hok hid]
  by_cases hlen:1000<=(A++B).length
  ·rw[if_pos hlen,if_pos (by simp),if_neg (by simp;simp at hlen;omega)]
  ·rw[if_neg hlen,if_neg (by simp)];subst hi
   show Xp (XG (A++B) z) zs=_
   rw[hc.put];have e1:A++z::B=(A++[z])++B:=by simp
   rw[e1];rw[List.map_cons,List.nodup_cons] at hn
   have hl':LotsOk ((A++[z])++B):=by
    have:=hl.put hok hid (by omega) rfl
    rw[<-e1];exact this
   rw[ih (A++[z]) B hc.next hl' (fun z' hz'=>⟨(hz z' (by simp[hz'])).1,(hz z' (by simp[hz'])).2.1,?_⟩) hn.2]
   ·have e2:((A++[z])++B).length=(A++B).length+1:=by simp;omega
    rw[e2];have e3:A++[z]++zs++B=A++(z::zs)++B:=by simp
    rw[e3];simp only[reduceCtorEq,false_or,List.length_cons]
    cases zs with
    |nil=>rw[if_pos (.inl rfl),if_pos (by simp at hlen ⊢; omega)]
    |cons z2 zs=>
     simp only[reduceCtorEq,false_or,List.length_cons]
     congr 1
     rw[eq_iff_iff];omega
   ·have h3:=(hz z' (by simp[hz'])).2.2;rw[<-e1];have hp:((A++z::B).map (·.id)).Perm (z.id::(A++B).map (·.id)):=(List.perm_middle (a:=z) (l₁:=A) (l₂:=B)).map (·.id);rw[hp.mem_iff];simp only[List.mem_cons,not_or];refine⟨fun e=>hn.1 ?_,h3⟩;rw[<-e];exact List.mem_map.2 ⟨z',hz',rfl⟩
end
section
open Go.RowKit Go.Shelf
theorem ZkS(w:World):Calls Tryz.prog 94 #[.int .i64 0] w fun e w'=>e=.returned (S (Qa 0))/\w=w':=by
 unfold S;go_enter Tryz.func94,Tryz.ntmps94
 go_wp2
 go_ret
 exact⟨rfl,rfl⟩
def ZmY(N:Nat)(s m:Value):Prop:=∃(k:Nat) (t:List UInt8),m=.int .i64 (-(k:Int))/\(k:Int)<=9223372036854775807/\s=.string ⟨t.toArray⟩/\QN N=QN k++t
theorem Zl7(n:Nat)(h0:0<n)(h1:(n:Int)<=9223372036854775807)(w:World):
 Calls Tryz.prog 94 #[.int .i64 (-(n:Int))] w fun e w'=>e=.returned (S (Qa (-(n:Int))))/\w=w':=by
 have hne:(-(n:Int)==0)=false:=by simp;omega
 have hng: -(n:Int)<0:=by omega
 have HT:=jq (show Qa (-(n:Int))=45::QN n by rw[YH,if_pos (by omega),Int.natAbs_neg,Int.natAbs_natCast];rfl);have HL:=jq (ZfA n (by omega));unfold S;go_enter Tryz.func94,Tryz.ntmps94
 go_wp2
 go_loop [3,4,5] (fun s m _=>ZmY n s m) (fun _ m _=>(-(intOf m)).toNat)
 case atStart=>exact⟨n,[],rfl,h1,rfl,by simp⟩
 case round=>
  obtain⟨k,t,rfl,hk,rfl,hd⟩:=hrel
  have HD:=jq hd;clear hd;have htl:t.length<=19:=by have h1:=HL.out;rw[HD.out,List.length_append] at h1;omega
  by_cases hk0:k=0
  ·subst hk0;have htz:(⟨t.toArray⟩:ByteArray).size<=19:=by rw[Qs];exact htl
   have hz0:(-((0:Nat):Int) !=0)=false:=rfl
   go_wp2
   all_goals first
    |(exfalso;omega)
    |(go_ret
      refine⟨?_,rfl⟩;rw[HT.out,HD.out];exact congrArg (fun b=>Ending.returned (.string b)) (ByteArray.mk_append_mk [45] t))
  ·have hkb:(-(k:Int) !=0)=true:=by simp;omega
   have HS:=jq (XO k hk0);have key:(k:Int)%10<=0->(48+ -((k:Int)%10))=48+(k:Int)%10:=fun h=>by omega
   have HKEY:=jq key;clear key
   go_wp2
   all_goals first
    |(exfalso
      have:=Vj k
      omega)
    |(exfalso
      have:=Vj k
      have h2:=HKEY.out (by assumption);rw[<-h2] at this;omega)
    |(go_round
      case rel=>
       refine⟨k/10,UInt8.ofNat (48+k%10)::t,by rw[show((k/10:Nat):Int)=(k:Int)/10 by omega],by omega,?_,?_⟩
       ·first
         |(rw[Zbh];exact congrArg Value.string (Jj [UInt8.ofNat (48+k%10)] t))
         |(rw[HKEY.out (by assumption),Zbh];exact congrArg Value.string (Jj [UInt8.ofNat (48+k%10)] t))
       ·rw[HD.out,HS.out,List.append_assoc];rfl
      case measure=>simp[intOf];omega)
theorem ZbN(n:Int)(h0: -9223372036854775807<=n)(h1:n<=9223372036854775807)(w:World):Calls Tryz.prog 94 #[.int .i64 n] w fun e w'=>e=.returned (S (Qa n))/\w=w':=by
 rcases Int.lt_trichotomy n 0 with h|h|h
 ·have:=Zl7 n.natAbs (by omega) (by omega) w
  rwa [show-((n.natAbs:Nat):Int)=n by omega] at this
 ·subst h;exact ZkS w
 ·exact Zl6 n h h1 w
end
section
open Go.RowKit Go.Shelf
theorem ZeJ{a b c:Rat}(h1:a<b)(h2:b<=c):a<c:=by
 rw[<-Rat.not_le];intro h3;exact absurd (Rat.le_trans h2 h3) (Rat.not_le.2 h1)
def XF(rs:List Rat):Nat->Nat
 |0=>0
 |k+1=>if rs.getD (XF rs k) 0<rs.getD k 0 then k else XF rs k
def ZbU(rs:List Rat):Nat:=XF rs rs.length
theorem Zjv{rs:List Rat}{j:Nat}(hj:j<rs.length)(h1:∀i,i<j->rs.getD i 0<rs.getD j 0)(h2:∀i,j<=i->i<rs.length->rs.getD i 0<=rs.getD j 0):
 ∀k,k<=rs.length->(j<k->XF rs k=j)/\(k<=j->XF rs k<k\/k=0):=by
 intro k
 induction k with
 |zero=>exact fun _=>⟨fun h=>by omega,fun _=>.inr rfl⟩
 |succ k ih=>
  intro hk;obtain⟨a,b⟩:=ih (by omega)
  constructor
  ·intro hjk;unfold XF
   rcases Nat.lt_or_ge j k with h|h
   ·rw[a h,if_neg];exact Rat.not_lt.2 (h2 k (by omega) (by omega))
   ·have e:j=k:=by omega
    subst e
    rcases b (Nat.le_refl _) with h3|h3
    ·rw[if_pos (h1 _ h3)]
    ·subst h3;unfold XF
     split<;>rfl
  ·intro hjk;unfold XF
   split
   ·exact .inl (by omega)
   ·rcases b (by omega) with h3|h3
    ·exact .inl (by omega)
    ·subst h3;exact .inl (by unfold XF;omega)
theorem Zli{rs:List Rat}{j:Nat}(hj:j<rs.length)(h1:∀i,i<j->rs.getD i 0<rs.getD j 0)(h2:∀i,j<=i->i<rs.length->rs.getD i 0<=rs.getD j 0):ZbU rs=j:=
 (Zjv hj h1 h2 rs.length (Nat.le_refl _)).1 hj
def Zbe(S:Int)(rs:List Int)(T:List Nat):List Rat:=rs.mapIdx fun i r=>if i∈T then Rat.divInt r S-1 else Rat.divInt r S
theorem Ve{S:Int}{rs:List Int}{T:List Nat}{i:Nat}(hi:i<rs.length):(Zbe S rs T).getD i 0=if i∈T then Rat.divInt (rs.getD i 0) S-1 else Rat.divInt (rs.getD i 0) S:=by
 unfold Zbe;rw[List.getD_eq_getElem?_getD,List.getElem?_mapIdx,List.getElem?_eq_getElem hi,List.getD_eq_getElem?_getD,List.getElem?_eq_getElem hi];rfl
theorem VL(S:Int)(rs:List Int)(T:List Nat):(Zbe S rs T).length=rs.length:=by simp[Zbe]
theorem ZcF{S r:Int}(hS:0<S)(h:r<S):Rat.divInt r S-1<0:=by
 have e:Rat.divInt r S-1=Rat.divInt (r-S) S:=by
  rw[show(1:Rat)=Rat.divInt 1 1 from rfl,Rat.divInt_sub_divInt _ _ (by omega) (by omega)]
  congr 1<;>omega
 rw[e,show(0:Rat)=Rat.divInt 0 1 from rfl,YI _ _ hS (by omega)];omega
theorem Zax{S r:Int}(hS:0<S)(h:0<=r):0<=Rat.divInt r S:=by
 rw[<-Rat.not_lt,show(0:Rat)=Rat.divInt 0 1 from rfl,YI _ _ hS (by omega)];omega
theorem ZdS{S:Int}{rs:List Int}(hS:0<S)(hr:∀r∈rs,0<=r/\r<S){k:Nat}(hk:k<rs.length):ZbU (Zbe S rs ((QV rs).take k))=(QV rs)[k]'(by rw[Xt];exact hk):=by
 have hkl:k<(QV rs).length:=by rw[Xt];exact hk
 generalize hj:(QV rs)[k]=j;have hjm:j∈QV rs:=by rw[<-hj];exact List.getElem_mem _
 have hjl:j<rs.length:=Jr.1 hjm
 have hbd:∀i,i<rs.length->0<=rs.getD i 0/\rs.getD i 0<S:=by
  intro i hi;rw[List.getD_eq_getElem?_getD,List.getElem?_eq_getElem hi];exact hr _ (List.getElem_mem hi)
 have hnot:j ∉ (QV rs).take k:=by
  intro hin;obtain⟨l,hl,e⟩:=List.getElem_of_mem hin
  rw[List.getElem_take] at e;have hlk:l<k:=by rw[List.length_take] at hl;omega
  have:=List.pairwise_iff_getElem.1 (VB rs) l k (by omega) hkl hlk
  exact this (e.trans hj.symm)
 have hafter:∀i,i<rs.length->i ∉ (QV rs).take k->Jb rs j i=true:=by
  intro i hi hin;obtain⟨l,hl,e⟩:=List.getElem_of_mem (Jr.2 hi)
  have hkl2:k<=l:=by
   rcases Nat.lt_or_ge l k with h|h
   ·exfalso
    apply hin
    rw[<-e];rw[List.mem_take_iff_getElem];exact⟨l,by omega,rfl⟩
   ·exact h
  rcases Nat.lt_or_eq_of_le hkl2 with h|h
  ·have:=List.pairwise_iff_getElem.1 (Zcr rs) k l hkl hl h
   rwa [hj,e] at this
  ·subst h;have:j=i:=hj.symm.trans e
   subst this;have:=Zc7 rs j j
   simpa using this
 refine Zli (by rw[VL];exact hjl) ?_ ?_
 ·intro i hij;have hi:i<rs.length:=by omega
  rw[Ve hi,Ve hjl,if_neg hnot]
  split
  ·exact ZeJ (ZcF hS (hbd i hi).2) (Zax hS (hbd j hjl).1)
  ·rename_i hin
   have:=hafter i hi hin
   unfold Jb at this;simp only[decide_eq_true_eq] at this;rw[YI _ _ hS hS];exact Int.mul_lt_mul_of_pos_right (by omega) hS
 ·intro i hji hi;rw[VL] at hi;rw[Ve hi,Ve hjl,if_neg hnot]
  split
  ·exact Rat.le_of_lt (ZeJ (ZcF hS (hbd i hi).2) (Zax hS (hbd j hjl).1))
  ·rename_i hin
   have:=hafter i hi hin
   unfold Jb at this;simp only[decide_eq_true_eq] at this;rw[<-Rat.not_lt,YI _ _ hS hS];intro h;have:=Int.lt_of_mul_lt_mul_right h (Int.le_of_lt hS)
   omega
theorem Zjw{S:Int}{rs:List Int}{k:Nat}(hk:k<rs.length){j:Nat}(hj:(QV rs)[k]'(by rw[Xt];exact hk)=j):(Zbe S rs ((QV rs).take k)).set j ((Zbe S rs ((QV rs).take k)).getD j 0-1)=Zbe S rs ((QV rs).take (k+1)):=by
 have hkl:k<(QV rs).length:=by rw[Xt];exact hk
 have hjl:j<rs.length:=Jr.1 (by rw[<-hj];exact List.getElem_mem _)
 have hnot:j ∉ (QV rs).take k:=by
  intro hin;obtain⟨l,hl,e⟩:=List.getElem_of_mem hin
  rw[List.getElem_take] at e;have hlk:l<k:=by rw[List.length_take] at hl;omega
  exact List.pairwise_iff_getElem.1 (VB rs) l k (by omega) hkl hlk (e.trans hj.symm)
 have hm:∀i,i∈(QV rs).take (k+1)↔i∈(QV rs).take k\/i=j:=by
  intro i;rw[List.take_succ_eq_append_getElem hkl,hj];simp
 refine List.ext_getElem? fun i=> ?_
 rw[List.getElem?_set]
 by_cases hi:i<rs.length
 ·have e1:(Zbe S rs ((QV rs).take k))[i]?=some ((Zbe S rs ((QV rs).take k)).getD i 0):=by
   rw[List.getD_eq_getElem?_getD,List.getElem?_eq_getElem (by rw[VL];exact hi)];rfl
  have e2:(Zbe S rs ((QV rs).take (k+1)))[i]?=some ((Zbe S rs ((QV rs).take (k+1))).getD i 0):=by
   rw[List.getD_eq_getElem?_getD,List.getElem?_eq_getElem (by rw[VL];exact hi)];rfl
  rw[e2,Ve hi]
  by_cases e:j=i
  ·subst e;rw[if_pos rfl,if_pos (by rw[VL];exact hi),Ve hi,if_neg hnot,if_pos ((hm j).2 (.inr rfl))]
  ·rw[if_neg e,e1,Ve hi]
   congr 1
   by_cases hin:i∈(QV rs).take k
   ·rw[if_pos hin,if_pos ((hm i).2 (.inl hin))]
   ·rw[if_neg hin,if_neg];rw[hm];rintro(h|h)
    ·exact hin h
    ·exact e h.symm
 ·rw[if_neg (fun e=>hi (by rw[<-e];exact hjl)),List.getElem?_eq_none (by rw[VL];omega),List.getElem?_eq_none (by rw[VL];omega)]
def ZdT(ps:List Int)(T:List Nat):List Int:=ps.mapIdx fun i b=>if i∈T then b+1 else b
theorem Zjx{ps rs:List Int}(hl:ps.length=rs.length){k:Nat}(hk:k<rs.length){j:Nat}(hj:(QV rs)[k]'(by rw[Xt];exact hk)=j):(ZdT ps ((QV rs).take k)).set j ((ZdT ps ((QV rs).take k)).getD j 0+1)=ZdT ps ((QV rs).take (k+1)):=by
 have hkl:k<(QV rs).length:=by rw[Xt];exact hk
 have hjl:j<ps.length:=by rw[hl];exact Jr.1 (by rw[<-hj];exact List.getElem_mem _)
 have hnot:j ∉ (QV rs).take k:=by
  intro hin;obtain⟨l,hl,e⟩:=List.getElem_of_mem hin
  rw[List.getElem_take] at e;have hlk:l<k:=by rw[List.length_take] at hl;omega
  exact List.pairwise_iff_getElem.1 (VB rs) l k (by omega) hkl hlk (e.trans hj.symm)
 have hm:∀i,i∈(QV rs).take (k+1)↔i∈(QV rs).take k\/i=j:=by
  intro i;rw[List.take_succ_eq_append_getElem hkl,hj];simp
 have hg:∀(T:List Nat) (i:Nat),(hi:i<ps.length)->(ZdT ps T)[i]?=some (if i∈T then ps[i]+1 else ps[i]):=by
  intro T i hi;unfold ZdT;rw[List.getElem?_mapIdx,List.getElem?_eq_getElem hi];rfl
 have hlen:∀T,(ZdT ps T).length=ps.length:=fun T=>by simp[ZdT]
 refine List.ext_getElem? fun i=> ?_
 rw[List.getElem?_set]
 by_cases hi:i<ps.length
 ·by_cases e:j=i
  ·subst e;rw[if_pos rfl,if_pos (by rw[hlen];exact hi),List.getD_eq_getElem?_getD,hg ((QV rs).take k) j hi,hg ((QV rs).take (k+1)) j hi,if_neg hnot,if_pos ((hm j).2 (.inr rfl))];rfl
  ·rw[if_neg e,hg _ i hi,hg _ i hi]
   congr 1
   by_cases hin:i∈(QV rs).take k
   ·rw[if_pos hin,if_pos ((hm i).2 (.inl hin))]
   ·rw[if_neg hin,if_neg];rw[hm];rintro(h|h)
    ·exact hin h
    ·exact e h.symm
 ·rw[if_neg (fun e=>hi (by rw[<-e];exact hjl)),List.getElem?_eq_none (by rw[hlen];omega),List.getElem?_eq_none (by rw[hlen];omega)]
end
end Go.Proofs.YtpnncoinlopndaaGreatDoor
