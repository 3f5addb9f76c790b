/- FR, Lp0, D0, A0, W0, Dv, R7, Ls0. -/
import Derived.Test.YtkddgeclncafoaaGreatDoorQGEn10
set_option maxRecDepth 20000
set_option maxHeartbeats 400000
namespace Go.Proofs.YtkddgeclncafoaaGreatDoor
open Go.Lib renaming hid→jq
section
open Go.RowKit Go.Shelf
theorem ZgH{l:List UInt8}(hall:l.all Qr=true)(hz:∀b t,l=b::t->(b==48)=false)(hn:l≠[]):Qi (45::l)=(l,true):=by
 have ht:Lib.trimPrefix (45::l) [45]=l:=by simp[Lib.trimPrefix,Lib.hasPrefix,List.isPrefixOf]
 have hp:Lib.hasPrefix (45::l) [45]=true:=by simp[Lib.hasPrefix,List.isPrefixOf]
 cases l with
 |nil=>exact absurd rfl hn
 |cons b t=>
  unfold Qi;simp only[ht,hall,hp,if_true];rw[List.dropWhile_cons,hz b t rfl];rfl
theorem Qc(n:Int):val (Qa n)=n:=by
 by_cases h0:n=0
 ·subst h0;decide+kernel
 ·have hne:n.natAbs≠0:=by omega
  obtain⟨b,l,e,h1,h2⟩:=Zai n.natAbs hne
  rw[Yp]
  by_cases hn:n<0
  ·rw[if_pos hn];have h:=ZgH (l:=QS n.natAbs) (JE _) (fun c t e'=>by rw[e] at e';injection e' with e1 e2;rw[<-e1];exact h1) (by rw[e];simp);unfold val;rw[show([45]++QS n.natAbs:List UInt8)=45::QS n.natAbs from rfl,h];simp only[if_true,Zak];omega
  ·rw[if_neg hn,List.nil_append];unfold val;rw[ZgF _ hne];simp only[Bool.false_eq_true,if_false,Zak];omega
theorem Xr:val []=0:=by decide+kernel
theorem ZjY{m n:Int}(h:Qa m=Qa n):m=n:=by rw[<-Qc m,h,Qc]
theorem VW{n:Int}:Qa n=[]↔n=0:=⟨fun h=>by rw[<-Qc n,h,Xr],fun h=>by rw[h];rfl⟩
theorem JF(a:List UInt8):(val a).natAbs<10^a.length:=by
 have h1:=XC (XD a).1;have h2:=Xl a;have h3:10^(Qi a).1.length<=10^a.length:=Nat.pow_le_pow_right (by omega) h2;unfold val
 split<;>omega
theorem JG{m L:Nat}:m<10^L->(QS m).length<=L:=by
 induction L generalizing m with
 |zero=>intro h;simp at h;subst h;simp[QS]
 |succ L ih=>
  intro h
  by_cases h0:m=0
  ·subst h0;simp[QS]
  ·rw[Xx m h0,List.length_append,List.length_singleton];have:=ih (m:=m/10) (by rw[Nat.pow_succ] at h;omega)
   omega
theorem Qg{n:Int}{L:Nat}(h:n.natAbs<10^L):(Qa n).length<=L+1:=by
 have:=JG h
 rw[Yp,List.length_append]
 split<;>simp<;>omega
structure Fr where
 n:List UInt8
 d:List UInt8
deriving DecidableEq
theorem Fr.ext_{f g:Fr}(h1:f.n=g.n)(h2:f.d=g.d):f=g:=by cases f;cases g;simp_all
def Fr.zero:Fr:=⟨[],[]⟩
def Fr.dv(f:Fr):Int:=if val f.d=0 then 1 else val f.d
theorem Fr.dv_ne(f:Fr):f.dv≠0:=by
 unfold Fr.dv
 split
 ·omega
 ·assumption
def Fr.rat(f:Fr):Rat:=Rat.divInt (val f.n) f.dv
def Qd(q:Rat):Fr:=⟨Qa q.num,if q.den=1 then[] else Qa q.den⟩
theorem Qj(q:Rat):(Qd q).rat=q:=by
 unfold Fr.rat Fr.dv Qd;simp only[Qc]
 by_cases h:q.den=1
 ·rw[if_pos h,if_pos Xr];have:=Rat.num_divInt_den q
  rw[h] at this;exact this
 ·rw[if_neg h,Qc,if_neg (by have:=q.den_nz;omega)];exact Rat.num_divInt_den q
theorem ZjZ{p q:Rat}(h:Qd p=Qd q):p=q:=by rw[<-Qj p,h,Qj]
theorem Zal:Qd 0=Fr.zero:=rfl
theorem VX:Fr.zero.rat=0:=by rw[<-Zal,Qj]
theorem Zdm(q:Rat):Qd q=Fr.zero↔q=0:=by
 rw[<-Zal];exact⟨ZjZ,fun h=>by rw[h]⟩
theorem Zel(f g:Fr):f.rat+g.rat=Rat.divInt (val f.n*g.dv+val g.n*f.dv) (f.dv*g.dv):=Rat.divInt_add_divInt _ _ f.dv_ne g.dv_ne
theorem ZhO(f g:Fr):f.rat-g.rat=Rat.divInt (val f.n*g.dv-val g.n*f.dv) (f.dv*g.dv):=Rat.divInt_sub_divInt _ _ f.dv_ne g.dv_ne
theorem Zem(f g:Fr):f.rat*g.rat=Rat.divInt (val f.n*val g.n) (f.dv*g.dv):=Rat.divInt_mul_divInt _ _
theorem Zml(f g:Fr):f.rat/g.rat=Rat.divInt (val f.n*g.dv) (f.dv*val g.n):=by
 unfold Fr.rat;rw[Rat.div_def,Rat.inv_divInt,Rat.divInt_mul_divInt]
theorem Zfo(f:Fr):f.rat=0↔val f.n=0:=by
 unfold Fr.rat
 constructor
 ·intro h;have h2:Rat.divInt (val f.n) f.dv=Rat.divInt 0 1:=by rw[h];rfl
  rw[Rat.divInt_eq_divInt_iff f.dv_ne (by omega)] at h2;omega
 ·intro h;rw[h,Rat.zero_divInt]
theorem ZhP(n d:Int)(hd:0<d):Int.fdiv n (Int.gcd n d)=(Rat.divInt n d).num:=by
 rw[Rat.num_divInt,Int.sign_eq_one_of_pos hd,Int.one_mul,Int.gcd_comm d n,Int.fdiv_eq_ediv_of_nonneg _ (by omega)]
theorem ZhQ(n d:Int)(hd:0<d):Int.fdiv d (Int.gcd n d)=(Rat.divInt n d).den:=by
 rw[Rat.den_divInt,if_neg (by omega),Int.gcd_comm d n,Int.fdiv_eq_ediv_of_nonneg _ (by omega),Int.natCast_ediv,Int.natAbs_of_nonneg (by omega)]
theorem ZhR(n d:Int)(hd:d≠0):(0:Int)<Int.gcd n d:=by
 have:=Int.gcd_pos_of_ne_zero_right n hd
 omega
theorem Zdn(n d:Int):(Rat.divInt n d).num.natAbs<=n.natAbs:=by
 rw[Rat.num_divInt];have h1:(d.sign*n/(d.gcd n:Int)).natAbs<=(d.sign*n).natAbs:=Int.natAbs_ediv_le_natAbs _ _
 have h2:(d.sign*n).natAbs<=n.natAbs:=by
  rw[Int.natAbs_mul]
  have:d.sign.natAbs<=1:=by
   rcases Int.lt_trichotomy d 0 with h|h|h
   ·rw[Int.sign_eq_neg_one_of_neg h];decide
   ·rw[h];decide
   ·rw[Int.sign_eq_one_of_pos h];decide
  calc d.sign.natAbs*n.natAbs<=1*n.natAbs:=Nat.mul_le_mul_right _ this
   _=n.natAbs:=Nat.one_mul _
 omega
theorem Zav(n d:Int)(hd:d≠0):(Rat.divInt n d).den<=d.natAbs:=by
 rw[Rat.den_divInt,if_neg hd];exact Nat.div_le_self _ _
def RB(L:Nat)(q:Rat):Prop:=q.num.natAbs<10^L/\q.den<10^L
theorem RB.more{L M:Nat}{q:Rat}(h:RB L q)(hLM:L<=M):RB M q:=
 ⟨Nat.lt_of_lt_of_le h.1 (Nat.pow_le_pow_right (by omega) hLM),Nat.lt_of_lt_of_le h.2 (Nat.pow_le_pow_right (by omega) hLM)⟩
theorem RB.divInt{L:Nat}{n d:Int}(hn:n.natAbs<10^L)(hd:d.natAbs<10^L)(h0:d≠0):RB L (Rat.divInt n d):=
 ⟨Nat.lt_of_le_of_lt (Zdn n d) hn,Nat.lt_of_le_of_lt (Zav n d h0) hd⟩
def Fr.Sz(L:Nat)(f:Fr):Prop:=f.n.length<=L/\f.d.length<=L
theorem Fr.dv_lt{f:Fr}{L:Nat}(h:f.d.length<=L)(hL:1<=L):f.dv.natAbs<10^L:=by
 unfold Fr.dv;have h1:=JF f.d;have h2:10^f.d.length<=10^L:=Nat.pow_le_pow_right (by omega) h;have h3:10^1<=10^L:=Nat.pow_le_pow_right (by omega) hL
 split<;>omega
theorem Qv{a:List UInt8}{L:Nat}(h:a.length<=L):(val a).natAbs<10^L:=
 Nat.lt_of_lt_of_le (JF a) (Nat.pow_le_pow_right (by omega) h)
theorem Qs{a b:Int}{L M:Nat}(ha:a.natAbs<10^L)(hb:b.natAbs<10^M):(a*b).natAbs<10^(L+M):=by
 rw[Int.natAbs_mul,Nat.pow_add];have h0:0<10^M:=Nat.pow_pos (by omega)
 rcases Nat.eq_zero_or_pos a.natAbs with h|h
 ·rw[h,Nat.zero_mul];exact Nat.mul_pos (Nat.pow_pos (by omega)) h0
 ·exact Nat.lt_of_lt_of_le (Nat.mul_lt_mul_of_pos_left hb h) (Nat.mul_le_mul_right _ (Nat.le_of_lt ha))
theorem ZaG{a b:Int}{L:Nat}(ha:a.natAbs<10^L)(hb:b.natAbs<10^L):(a+b).natAbs<10^(L+1):=by
 rw[Nat.pow_succ];omega
theorem Zcp{a b:Int}{L:Nat}(ha:a.natAbs<10^L)(hb:b.natAbs<10^L):(a-b).natAbs<10^(L+1):=by
 rw[Nat.pow_succ];omega
theorem QV{q:Rat}{L:Nat}(h:RB L q):(Qd q).Sz (L+1):=by
 refine⟨Qg h.1,?_⟩;unfold Qd;simp only
 split
 ·simp
 ·exact Qg (by simpa using h.2)
theorem Zcq{f:Fr}{L:Nat}(h:f.Sz L)(hL:1<=L):RB L f.rat:=RB.divInt (Qv h.1) (Fr.dv_lt h.2 hL) f.dv_ne
theorem Fr.Sz.more{f:Fr}{L M:Nat}(h:f.Sz L)(hLM:L<=M):f.Sz M:=⟨Nat.le_trans h.1 hLM,Nat.le_trans h.2 hLM⟩
theorem ZnN{f g:Fr}{L:Nat}(hf:f.Sz L)(hg:g.Sz L)(hL:1<=L):RB (L+L+1) (f.rat+g.rat):=by
 rw[Zel];have h0:=Int.mul_ne_zero f.dv_ne g.dv_ne;refine RB.divInt (ZaG (Qs (Qv hf.1) (Fr.dv_lt hg.2 hL)) (Qs (Qv hg.1) (Fr.dv_lt hf.2 hL))) ?_ h0;exact Nat.lt_of_lt_of_le (Qs (Fr.dv_lt hf.2 hL) (Fr.dv_lt hg.2 hL)) (Nat.pow_le_pow_right (by omega) (by omega))
theorem ZnO{f g:Fr}{L:Nat}(hf:f.Sz L)(hg:g.Sz L)(hL:1<=L):RB (L+L+1) (f.rat-g.rat):=by
 rw[ZhO];have h0:=Int.mul_ne_zero f.dv_ne g.dv_ne;refine RB.divInt (Zcp (Qs (Qv hf.1) (Fr.dv_lt hg.2 hL)) (Qs (Qv hg.1) (Fr.dv_lt hf.2 hL))) ?_ h0;exact Nat.lt_of_lt_of_le (Qs (Fr.dv_lt hf.2 hL) (Fr.dv_lt hg.2 hL)) (Nat.pow_le_pow_right (by omega) (by omega))
theorem ZgI{f g:Fr}{L:Nat}(hf:f.Sz L)(hg:g.Sz L)(hL:1<=L):RB (L+L) (f.rat*g.rat):=by
 rw[Zem];exact RB.divInt (Qs (Qv hf.1) (Qv hg.1)) (Qs (Fr.dv_lt hf.2 hL) (Fr.dv_lt hg.2 hL)) (Int.mul_ne_zero f.dv_ne g.dv_ne)
def QK(x y:Rat):Int:=if x<y then-1 else if y<x then 1 else 0
def Qt(n:Int):Int:=if n<0 then-1 else if 0<n then 1 else 0
theorem Yq(a c:Int){b d:Int}(hb:0<b)(hd:0<d):Rat.divInt a b<Rat.divInt c d↔a*d<c*b:=by
 have hb':(0:Rat)<(b:Rat):=by exact_mod_cast hb
 have hd':(0:Rat)<(d:Rat):=by exact_mod_cast hd
 rw[Rat.divInt_eq_div,Rat.divInt_eq_div,Rat.div_lt_iff hb',Rat.div_def c,Rat.mul_assoc,Rat.mul_comm _ (b:Rat),<-Rat.mul_assoc,<-Rat.div_def,Rat.lt_div_iff hd']
 exact_mod_cast Iff.rfl
theorem ZbS(a c:Int){b d:Int}(hb:0<b)(hd:0<d):QK (Rat.divInt a b) (Rat.divInt c d)=Qt (a*d-c*b):=by
 unfold QK Qt;simp only[Yq a c hb hd,Yq c a hd hb];have e1:a*d-c*b<0↔a*d<c*b:=by omega
 have e2:0<a*d-c*b↔c*b<a*d:=by omega
 simp only[e1,e2]
theorem Zj0(x y:Rat):QK x y=Qt (x-y).num:=by
 unfold QK Qt
 have e1:(x-y).num<0↔x<y:=by
  have h:=Rat.num_nonneg (q:=x-y);have h2:=Rat.le_iff_sub_nonneg y x;rw[<-Rat.not_le,h2,<-h];omega
 have e2:0<(x-y).num↔y<x:=by
  have h:=Rat.num_nonneg (q:=y-x);have h2:=Rat.le_iff_sub_nonneg x y;rw[<-Rat.not_le,h2,<-h,<-Rat.neg_sub x y,Rat.neg_num];omega
 simp only[e1,e2]
def Fr.ok(f:Fr):Prop:=f=Qd f.rat
instance (f:Fr):Decidable f.ok:=inferInstanceAs (Decidable (f=Qd f.rat))
theorem Zen(q:Rat):(Qd q).ok:=by unfold Fr.ok;rw[Qj]
end
section
open Go.RowKit Go.Shelf
structure Lot where
 id:List UInt8
 inst:List UInt8
 acq:Int
 opn:Int
 q:List UInt8
 c:List UInt8
 u:List UInt8
deriving DecidableEq
def QH(a:List UInt8):Bool:=decide (a=Qa (val a))
theorem Zbs(n:Int):QH (Qa n)=true:=by unfold QH;rw[Qc];simp
theorem Zmm{a:List UInt8}(h:QH a=true):a=Qa (val a):=by simpa[QH] using h
def VY(c:UInt8):Bool:=(decide (97<=c)&&decide (c<=122))||(decide (48<=c)&&decide (c<=57))||c==95
def Qp(s:List UInt8):Bool:=decide (s≠[])&&decide (s.length<=16)&&s.all VY
def VK(s:List UInt8):Bool:=decide (1<=s.length)&&decide (s.length<=4)&&decide (s.head?≠some 48)&&s.all Qr
def idB(s:List UInt8):Bool:=decide (47∈s)&&Qp (s.takeWhile (·!=47))&&VK ((s.dropWhile (·!=47)).drop 1)
def VL(d:Int):Bool:=decide (-25567<=d)&&decide (d<=84005)
def VD(l:Lot):Int:=
 if !(idB l.id&&Qp l.inst) then 23 else if !(VL l.acq&&VL l.opn) then 13 else if l.opn<l.acq then 8
 else if !(QH l.q&&QH l.c&&QH l.u) then 1 else if val l.q<=0\/val l.c<0\/(l.u≠[]/\l.u≠l.q) then 2 else 0
def Vl(seen:List (List UInt8)):List Lot->Int
 |[]=>0
 |x::l=>if VD x≠0 then VD x else if x.id∈seen then 5 else Vl (x.id::seen) l
def Vm(l:List Lot):Int:=if 1000<l.length then 4 else Vl [] l
structure Lot.Ok (l:Lot):Prop where
 id:idB l.id=true
 inst:Qp l.inst=true
 acq:VL l.acq=true
 opn:VL l.opn=true
 ord:l.acq<=l.opn
 q:QH l.q=true
 c:QH l.c=true
 q0:0<val l.q
 c0:0<=val l.c
 u:l.u=[]\/l.u=l.q
theorem ZhS(l:Lot):VD l=0↔l.Ok:=by
 unfold VD
 constructor
 ·intro h
  split at h
  ·cases h
  rename_i h1
  split at h
  ·cases h
  rename_i h2
  split at h
  ·cases h
  rename_i h3
  split at h
  ·cases h
  rename_i h4
  split at h
  ·cases h
  rename_i h5
  simp only[Bool.not_eq_true',Bool.not_eq_false,Bool.and_eq_true] at h1 h2 h4;simp only[not_or,not_and,Int.not_le,Int.not_lt] at h5;refine⟨h1.1,h1.2,h2.1,h2.2,by omega,h4.1.1,h4.1.2,h5.1,h5.2.1,?_⟩
  by_cases hu:l.u=[]
  ·exact .inl hu
  ·exact .inr (Classical.not_not.1 (h5.2.2 hu))
 ·intro h;rw[if_neg (by simp[h.id,h.inst]),if_neg (by simp[h.acq,h.opn]),if_neg (by have:=h.ord;omega),if_neg,if_neg]
  ·simp only[not_or,not_and,Int.not_le,Int.not_lt];refine⟨h.q0,h.c0,fun hu=> ?_⟩
   rcases h.u with e|e
   ·exact absurd e hu
   ·exact fun hn=>hn e
  ·have hcu:QH l.u=true:=by
    rcases h.u with e|e
    ·rw[e];decide+kernel
    ·rw[e];exact h.q
   simp[h.q,h.c,hcu]
theorem Zcr(seen:List (List UInt8))(l:List Lot):Vl seen l=0↔(∀x∈l,x.Ok)/\(l.map (·.id)).Nodup/\∀x∈l,x.id ∉ seen:=by
 induction l generalizing seen with
 |nil=>simp[Vl]
 |cons a l ih=>
  unfold Vl
  by_cases h1:VD a≠0
  ·rw[if_pos h1]
   constructor
   ·intro h;exact absurd h h1
   ·intro h;exact absurd ((ZhS a).2 (h.1 a (by simp))) h1
  ·rw[if_neg h1]
   by_cases h2:a.id∈seen
   ·rw[if_pos h2]
    constructor
    ·intro h;cases h
    ·intro h;exact absurd h2 (h.2.2 a (by simp))
   ·rw[if_neg h2,ih];have h1':VD a=0:=Classical.not_not.1 h1
    constructor
    ·intro⟨ha,hb,hc⟩
     refine⟨?_,?_,?_⟩
     ·intro x hx
      rcases List.mem_cons.1 hx with rfl|hx
      ·exact(ZhS _).1 h1'
      ·exact ha x hx
     ·rw[List.map_cons,List.nodup_cons];refine⟨?_,hb⟩;intro hm;obtain⟨x,hx,e⟩:=List.mem_map.1 hm
      exact hc x hx (by simp[e])
     ·intro x hx
      rcases List.mem_cons.1 hx with rfl|hx
      ·exact h2
      ·exact fun hs=>hc x hx (by simp[hs])
    ·intro⟨ha,hb,hc⟩
     rw[List.map_cons,List.nodup_cons] at hb;refine⟨fun x hx=>ha x (by simp[hx]),hb.2,fun x hx=> ?_⟩;simp only[List.mem_cons,not_or];exact⟨fun e=>hb.1 (List.mem_map.2 ⟨x,hx,e⟩),hc x (by simp[hx])⟩
structure LotsOk (l:List Lot):Prop where
 len:l.length<=1000
 ok:∀x∈l,x.Ok
 ids:(l.map (·.id)).Nodup
theorem ZhT(l:List Lot):Vm l=0↔LotsOk l:=by
 unfold Vm
 split
 ·rename_i h
  exact⟨(fun e=>absurd e (by decide)),(fun e=>absurd e.len (by omega))⟩
 ·rename_i h
  rw[Zcr];exact⟨fun e=>⟨by omega,e.1,e.2.1⟩,fun e=>⟨e.ok,e.ids,fun x _=>by simp⟩⟩
def leS(a b:List UInt8):Bool:=Op.bytesLess a b||a==b
def ZhU(l:List Lot)(i:List UInt8):Nat:=l.length-(l.reverse.takeWhile (fun y=> !leS y.inst i)).length
def Zoq(l:List Lot)(x:Lot):List Lot:=l.take (ZhU l x.inst)++x::l.drop (ZhU l x.inst)
def Qf(l:List Lot)(i:List UInt8):List Lot:=l.filter (fun x=>x.inst==i)
end
section
open Go.RowKit Go.Shelf
def QW(q:Rat):Int:=q.num.fdiv q.den
def VE(q:Rat):Int:=q.num.fmod q.den
theorem Vn{n d e:Int}(he:0<e):(n*e).fdiv (d*e)=n.fdiv d:=by
 rw[Int.mul_comm n,Int.mul_comm d,Int.mul_fdiv_mul_of_pos _ _ he]
theorem Za1(n d:Int)(hd:d≠0):n.fdiv d=QW (Rat.divInt n d):=by
 have h1:=Rat.num_divInt_den (Rat.divInt n d);rw[Rat.divInt_eq_divInt_iff (by have:=(Rat.divInt n d).den_nz;omega) hd] at h1;unfold QW;have he:(0:Int)<(Rat.divInt n d).den:=by have:=(Rat.divInt n d).den_pos;omega
 generalize (Rat.divInt n d).num=p at*;generalize ((Rat.divInt n d).den:Int)=e at*;rw[<-Vn (n:=n) (d:=d) he,<-h1]
 rcases Int.lt_or_gt_of_ne hd with h|h
 ·have h2:=Vn (n:=p) (d:=e) (e:= -d) (by omega);rw[<-h2,Int.mul_neg,Int.mul_neg,Int.neg_fdiv_neg,Int.mul_comm e d]
 ·rw[Int.mul_comm d e,Vn h]
theorem Zep(q:Rat):q.den*QW q+VE q=q.num:=by
 unfold QW VE;exact Int.mul_fdiv_add_fmod _ _
theorem XT(q:Rat):0<=VE q/\VE q<q.den:=by
 unfold VE;have h:(0:Int)<q.den:=by have:=q.den_pos;omega
 exact⟨Int.fmod_nonneg_of_pos _ h,Int.fmod_lt_of_pos _ h⟩
def rnd(q:Rat):Int:=if(q.den:Int)<2*VE q\/(2*VE q=q.den/\(QW q).fmod 2≠0) then QW q+1 else QW q
theorem Zeq(q:Rat):(QW q).natAbs<=q.num.natAbs+1:=by
 have h1:=Zep q;obtain⟨h2,h3⟩:=XT q
 have h4:(1:Int)<=q.den:=by have:=q.den_pos;omega
 generalize QW q=f at*;generalize VE q=r at*;generalize (q.den:Int)=d at*;generalize q.num=n at*
 rcases Int.le_total 0 f with h|h
 ·have:1*f<=d*f:=Int.mul_le_mul_of_nonneg_right h4 h
  omega
 ·have:d*f<=1*f:=Int.mul_le_mul_of_nonpos_right h4 h
  have:f<0->d*(f+1)<=1*(f+1):=fun h5=>Int.mul_le_mul_of_nonpos_right h4 (by omega)
  rw[Int.mul_add] at this;omega
end
section
open Go.RowKit Go.Shelf
def Qw(t:Int)(ws:List Int):List Int:=ws.map fun w=>(t*w).fdiv ws.sum
def QG(t:Int)(ws:List Int):List Int:=ws.map fun w=>(t*w).fmod ws.sum
def Xk(t:Int)(ws:List Int):Int:=t-(Qw t ws).sum
def VZ(rs:List Int)(i k:Nat):Bool:=decide (rs.getD k 0<rs.getD i 0\/(rs.getD i 0=rs.getD k 0/\i<=k))
def QT(rs:List Int):List Nat:=(List.range rs.length).mergeSort (VZ rs)
def upL(t:Int)(ws:List Int):List Nat:=(QT (QG t ws)).take (Xk t ws).toNat
def Xs(t:Int)(ws:List Int):List Int:=(Qw t ws).mapIdx fun i b=>if i∈upL t ws then b+1 else b
theorem Xe(l m:List Int):(l++m).sum=l.sum+m.sum:=by
 induction l with
 |nil=>simp
 |cons a l ih=>simp only[List.cons_append,List.sum_cons,ih];omega
theorem QI{l:List Int}(h:∀x∈l,0<=x):0<=l.sum:=by
 induction l with
 |nil=>simp
 |cons a l ih=>
  have h1:=h a (by simp);have h2:=ih (fun x hx=>h x (by simp[hx]));simp only[List.sum_cons];omega
theorem Zcb{l:List Int}(h:∀x∈l,0<=x){x:Int}(hx:x∈l):x<=l.sum:=by
 induction l with
 |nil=>simp at hx
 |cons a l ih=>
  have h1:=h a (by simp);have h2:=QI (fun x hx=>h x (List.mem_cons_of_mem a hx));simp only[List.sum_cons]
  rcases List.mem_cons.1 hx with e|hx
  ·omega
  ·have:=ih (fun x hx=>h x (by simp[hx])) hx;omega
theorem Zcs(t S:Int)(ws:List Int):S*(ws.map fun w=>(t*w).fdiv S).sum+(ws.map fun w=>(t*w).fmod S).sum=t*ws.sum:=by
 induction ws with
 |nil=>simp
 |cons a l ih=>
  simp only[List.map_cons,List.sum_cons,Int.mul_add] at ih ⊢;have:=Int.mul_fdiv_add_fmod (t*a) S
  omega
theorem Zdo(t:Int)(ws:List Int):ws.sum*(Qw t ws).sum+(QG t ws).sum=t*ws.sum:=Zcs t ws.sum ws
theorem Zfr(t:Int)(ws:List Int):(QG t ws).sum=ws.sum*Xk t ws:=by
 have h:=Zdo t ws;unfold Xk;rw[Int.mul_sub,Int.mul_comm ws.sum t];omega
theorem XH(t:Int){ws:List Int}(hS:0<ws.sum):∀r∈QG t ws,0<=r/\r<ws.sum:=by
 intro r hr;obtain⟨w,_,rfl⟩:=List.mem_map.1 hr
 exact⟨Int.fmod_nonneg_of_pos _ hS,Int.fmod_lt_of_pos _ hS⟩
theorem YJ(t:Int){ws:List Int}(hS:0<ws.sum):0<=Xk t ws:=by
 have h1:=Zfr t ws;have h2:=QI (fun r hr=>(XH t hS r hr).1);rw[h1] at h2
 rcases Int.lt_or_le (Xk t ws) 0 with h|h
 ·have:=Int.mul_neg_of_pos_of_neg hS h;omega
 ·exact h
theorem Zer{S:Int}{l:List Int}(h:∀r∈l,0<=r/\r<S):l.sum<=S*(l.countP (fun r=>decide (0<r)):Nat)/\(0<l.sum->l.sum<S*(l.countP (fun r=>decide (0<r)):Nat)):=by
 induction l with
 |nil=>simp
 |cons a l ih=>
  obtain⟨h1,h2⟩:=ih (fun r hr=>h r (by simp[hr]))
  obtain⟨h3,h4⟩:=h a (by simp)
  simp only[List.sum_cons,List.countP_cons]
  by_cases ha:0<a
  ·simp only[ha,decide_true,if_true,Int.natCast_add,Int.mul_add]
   constructor<;>omega
  ·have:a=0:=by omega
   subst this;simp only[Int.lt_irrefl,decide_false,Bool.false_eq_true,if_false,Nat.add_zero,Int.zero_add];exact⟨h1,h2⟩
theorem YC(t:Int){ws:List Int}(hS:0<ws.sum):Xk t ws<=((QG t ws).countP (fun r=>decide (0<r)):Nat):=by
 have h1:=(Zer (XH t hS)).1;rw[Zfr] at h1;exact Int.le_of_mul_le_mul_left h1 hS
theorem Zct(rs:List Int)(i k:Nat):(VZ rs i k||VZ rs k i)=true:=by
 unfold VZ;simp only[Bool.or_eq_true,decide_eq_true_eq];omega
theorem ZgM(rs:List Int)(i j k:Nat)(h1:VZ rs i j=true)(h2:VZ rs j k=true):VZ rs i k=true:=by
 unfold VZ at*
 simp only[decide_eq_true_eq] at*
 omega
theorem Ja(rs:List Int):(QT rs).Perm (List.range rs.length):=List.mergeSort_perm _ _
theorem Vo(rs:List Int):(QT rs).Nodup:=(Ja rs).nodup_iff.2 List.nodup_range
theorem ZbU(rs:List Int):(QT rs).Pairwise (fun i k=>VZ rs i k=true):=List.pairwise_mergeSort (ZgM rs) (Zct rs) _
theorem Jb{rs:List Int}{i:Nat}:i∈QT rs↔i<rs.length:=by rw[(Ja rs).mem_iff];exact List.mem_range
theorem Xf(rs:List Int):(QT rs).length=rs.length:=by rw[(Ja rs).length_eq,List.length_range]
theorem ZgN(rs:List Int)(p:Int->Bool):(List.range rs.length).countP (fun i=>p (rs.getD i 0))=rs.countP p:=by
 induction rs with
 |nil=>simp
 |cons a l ih=>
  rw[List.length_cons,List.range_succ_eq_map,List.countP_cons,List.countP_cons,List.countP_map];simp only[List.getD_cons_zero];rw[<-ih];rfl
theorem ZnQ(t:Int){ws:List Int}(hS:0<ws.sum){i:Nat}(hi:i∈upL t ws):0<(QG t ws).getD i 0:=by
 have hm:=YC t hS;have hb:=XH t hS;unfold upL at hi;generalize QG t ws=rs at*;generalize Xk t ws=m at*
 rcases Int.lt_or_le 0 (rs.getD i 0) with h|h
 ·exact h
 exfalso
 obtain⟨k,hk,hki⟩:=List.getElem_of_mem hi
 have hkl:k<(QT rs).length:=by rw[List.length_take] at hk;omega
 have hkm:k<m.toNat:=by rw[List.length_take] at hk;omega
 rw[List.getElem_take] at hki
 have hsplit:(QT rs).countP (fun i=>decide (0<rs.getD i 0))<=k:=by
  rw[<-List.take_append_drop k (QT rs),List.countP_append];have h1:((QT rs).take k).countP (fun i=>decide (0<rs.getD i 0))<=k:=Nat.le_trans List.countP_le_length (by rw[List.length_take];omega)
  have h2:((QT rs).drop k).countP (fun i=>decide (0<rs.getD i 0))=0:=by
   rw[List.countP_eq_zero];intro j hj;obtain⟨l,hl,hlj⟩:=List.getElem_of_mem hj
   rw[List.getElem_drop] at hlj;have hl':k+l<(QT rs).length:=by rw[List.length_drop] at hl;omega
   have hle:rs.getD j 0<=rs.getD i 0:=by
    rcases Nat.eq_zero_or_pos l with e|e
    ·subst e;have e2:i=j:=hki.symm.trans hlj;rw[e2];exact Int.le_refl _
    ·have:=List.pairwise_iff_getElem.1 (ZbU rs) k (k+l) hkl hl' (by omega)
     rw[hki,hlj] at this;unfold VZ at this;simp only[decide_eq_true_eq] at this;omega
   simp only[decide_eq_true_eq];omega
  omega
 rw[(Ja rs).countP_eq,ZgN rs (fun r=>decide (0<r))] at hsplit;omega
theorem ZiB(t:Int){ws:List Int}(hS:0<ws.sum):((upL t ws).length:Int)=Xk t ws:=by
 have h1:=YC t hS;have h2:=YJ t hS;have h3:(QG t ws).countP (fun r=>decide (0<r))<=(QG t ws).length:=List.countP_le_length;unfold upL;rw[List.length_take,Xf];omega
theorem XX(t:Int)(ws:List Int):(Xs t ws).length=ws.length:=by simp[Xs,Qw]
theorem Zfs(t:Int)(ws:List Int)(i:Nat)(hi:i<ws.length):(Xs t ws)[i]?=some (if i∈upL t ws then(t*ws[i]).fdiv ws.sum+1 else(t*ws[i]).fdiv ws.sum):=by
 simp[Xs,Qw,hi]
theorem Zdp(l:List Int)(P:Nat->Prop)[DecidablePred P]:(l.mapIdx fun i b=>if P i then b+1 else b).sum=l.sum+((List.range l.length).countP (fun i=>decide (P i)):Nat):=by
 induction l generalizing P with
 |nil=>simp
 |cons a l ih=>
  rw[List.mapIdx_cons,List.sum_cons,List.sum_cons,List.length_cons,List.range_succ_eq_map,List.countP_cons,List.countP_map];have:=ih (fun i=>P (i+1))
  rw[this];have e:((fun i=>decide (P i)) ∘ Nat.succ)=fun i=>decide (P (i+1)):=rfl
  rw[e]
  by_cases h0:P 0<;>simp[h0]<;>omega
theorem Zft(t:Int){ws:List Int}(hS:0<ws.sum):(Xs t ws).sum=t:=by
 unfold Xs;rw[Zdp (Qw t ws) (fun i=>i∈upL t ws)]
 have h1:(List.range (Qw t ws).length).countP (fun i=>decide (i∈upL t ws))=(upL t ws).length:=by
  have hl:(Qw t ws).length=(QG t ws).length:=by simp[Qw,QG]
  rw[hl,<-(Ja (QG t ws)).countP_eq];have hn:=Vo (QG t ws);unfold upL;generalize QT (QG t ws)=o at*;generalize (Xk t ws).toNat=m at*;have hd:((o.take m)++(o.drop m)).Nodup:=by rw[List.take_append_drop];exact hn
  rw[List.nodup_append] at hd
  have e:o.countP (fun i=>decide (i∈o.take m))=(o.take m).countP (fun i=>decide (i∈o.take m))+(o.drop m).countP (fun i=>decide (i∈o.take m)):=by
   rw[<-List.countP_append,List.take_append_drop]
  rw[e,List.countP_eq_length.2 (fun a ha=>by simpa using ha),List.countP_eq_zero.2 (fun a ha=>by
   simp only[decide_eq_true_eq];intro hm;exact hd.2.2 a hm a ha rfl)]
  rfl
 rw[h1,ZiB t hS];unfold Xk;omega
end
section
open Go.RowKit Go.Shelf
def Qz(ws:List (List UInt8)):Int:=(ws.map val).sum
theorem ZdG(ws:List (List UInt8))(x:List UInt8):Qz (ws++[x])=Qz ws+val x:=by
 unfold Qz;rw[List.map_append,Xe];simp
theorem ZdH{ws:List (List UInt8)}{k:Nat}{x:List UInt8}(h:ws[k]?=some x):Qz (ws.take (k+1))=Qz (ws.take k)+val x:=by
 obtain⟨hk,rfl⟩:=List.getElem?_eq_some_iff.1 h
 rw[List.take_succ_eq_append_getElem hk,ZdG]
theorem Zfu{ws:List (List UInt8)}{L:Nat}(h:∀x∈ws,x.length<=L):(Qz ws).natAbs<=ws.length*10^L:=by
 unfold Qz
 induction ws with
 |nil=>simp
 |cons a l ih=>
  have h1:=ih (fun x hx=>h x (by simp[hx]));have h2:=Qv (h a (by simp));simp only[List.map_cons,List.sum_cons,List.length_cons,Nat.succ_mul];omega
theorem Jc{ws:List (List UInt8)}{L:Nat}(h:∀x∈ws,x.length<=L)(hn:ws.length<=9999):(Qa (Qz ws)).length<=L+5:=by
 refine Qg (L:=L+4) ?_;have h1:=Zfu h;have h2:ws.length*10^L<10^4*10^L:=Nat.mul_lt_mul_of_pos_right (by omega) (Nat.pow_pos (by omega));rw[Nat.pow_add,Nat.mul_comm (10^L)];omega
theorem VM{ws:List (List UInt8)}{L:Nat}(h:∀x∈ws,x.length<=L)(hn:ws.length<=9999)(k:Nat):(Qa (Qz (ws.take k))).length<=L+5:=
 Jc (fun x hx=>h x (List.mem_of_mem_take hx)) (by rw[List.length_take];omega)
end
section
open Go.RowKit
theorem XU(n:Int):Rat.divInt n 1=(n:Rat):=by
 have:=Rat.num_divInt_den (n:Rat)
 simpa using this
end
section
open Go.RowKit Go.Shelf
theorem Zk3(w:World):Calls Tryz.prog 71 #[.int .i64 0] w fun e w'=>e=.returned (S (Qa 0))/\w=w':=by
 unfold S;go_enter Tryz.func71,Tryz.ntmps71
 go_wp2
 go_ret
 exact⟨rfl,rfl⟩
def Zn8(N:Nat)(s m:Value):Prop:=∃(k:Nat) (t:List UInt8),m=.int .i64 (-(k:Int))/\(k:Int)<=9223372036854775807/\s=.string ⟨t.toArray⟩/\QS N=QS k++t
theorem ZmM(n:Nat)(h0:0<n)(h1:(n:Int)<=9223372036854775807)(w:World):
 Calls Tryz.prog 71 #[.int .i64 (-(n:Int))] w fun e w'=>e=.returned (S (Qa (-(n:Int))))/\w=w':=by
 have hne:(-(n:Int)==0)=false:=by simp;omega
 have hng: -(n:Int)<0:=by omega
 have HT:=jq (show Qa (-(n:Int))=45::QS n by rw[Yp,if_pos (by omega),Int.natAbs_neg,Int.natAbs_natCast];rfl);have HL:=jq (Zfj n (by omega));unfold S;go_enter Tryz.func71,Tryz.ntmps71
 go_wp2
 go_loop [3,4,5] (fun s m _=>Zn8 n s m) (fun _ m _=>(-(intOf m)).toNat)
 case atStart=>exact⟨n,[],rfl,h1,rfl,by simp⟩
 case round=>
  obtain⟨k,t,rfl,hk,rfl,hd⟩:=hrel
  have HD:=jq hd;clear hd;have htl:t.length<=19:=by have h1:=HL.out;rw[HD.out,List.length_append] at h1;omega
  by_cases hk0:k=0
  ·subst hk0;have htz:(⟨t.toArray⟩:ByteArray).size<=19:=by rw[Qm];exact htl
   have hz0:(-((0:Nat):Int) !=0)=false:=rfl
   go_wp2
   all_goals first
    |(exfalso;omega)
    |(go_ret
      refine⟨?_,rfl⟩;rw[HT.out,HD.out];exact congrArg (fun b=>Ending.returned (.string b)) (ByteArray.mk_append_mk [45] t))
  ·have hkb:(-(k:Int) !=0)=true:=by simp;omega
   have HS:=jq (Xx k hk0);have key:(k:Int)%10<=0->(48+ -((k:Int)%10))=48+(k:Int)%10:=fun h=>by omega
   have HKEY:=jq key;clear key
   go_wp2
   all_goals first
    |(exfalso
      have:=YY k
      omega)
    |(exfalso
      have:=YY k
      have h2:=HKEY.out (by assumption);rw[<-h2] at this;omega)
    |(go_round
      case rel=>
       refine⟨k/10,UInt8.ofNat (48+k%10)::t,by rw[show((k/10:Nat):Int)=(k:Int)/10 by omega],by omega,?_,?_⟩
       ·first
         |(rw[Za0];exact congrArg Value.string (VS [UInt8.ofNat (48+k%10)] t))
         |(rw[HKEY.out (by assumption),Za0];exact congrArg Value.string (VS [UInt8.ofNat (48+k%10)] t))
       ·rw[HD.out,HS.out,List.append_assoc];rfl
      case measure=>simp[intOf];omega)
theorem Zbg(n:Int)(h0: -9223372036854775807<=n)(h1:n<=9223372036854775807)(w:World):Calls Tryz.prog 71 #[.int .i64 n] w fun e w'=>e=.returned (S (Qa n))/\w=w':=by
 rcases Int.lt_trichotomy n 0 with h|h|h
 ·have:=ZmM n.natAbs (by omega) (by omega) w
  rwa [show-((n.natAbs:Nat):Int)=n by omega] at this
 ·subst h;exact Zk3 w
 ·exact ZmL n h h1 w
end
section
open Go.RowKit Go.Shelf
theorem Zeh{a b c:Rat}(h1:a<b)(h2:b<=c):a<c:=by
 rw[<-Rat.not_le];intro h3;exact absurd (Rat.le_trans h2 h3) (Rat.not_le.2 h1)
def Xo(rs:List Rat):Nat->Nat
 |0=>0
 |k+1=>if rs.getD (Xo rs k) 0<rs.getD k 0 then k else Xo rs k
def Zbn(rs:List Rat):Nat:=Xo rs rs.length
theorem ZjN{rs:List Rat}{j:Nat}(hj:j<rs.length)(h1:∀i,i<j->rs.getD i 0<rs.getD j 0)(h2:∀i,j<=i->i<rs.length->rs.getD i 0<=rs.getD j 0):
 ∀k,k<=rs.length->(j<k->Xo rs k=j)/\(k<=j->Xo rs k<k\/k=0):=by
 intro k
 induction k with
 |zero=>exact fun _=>⟨fun h=>by omega,fun _=>.inr rfl⟩
 |succ k ih=>
  intro hk;obtain⟨a,b⟩:=ih (by omega)
  constructor
  ·intro hjk;unfold Xo
   rcases Nat.lt_or_ge j k with h|h
   ·rw[a h,if_neg];exact Rat.not_lt.2 (h2 k (by omega) (by omega))
   ·have e:j=k:=by omega
    subst e
    rcases b (Nat.le_refl _) with h3|h3
    ·rw[if_pos (h1 _ h3)]
    ·subst h3;unfold Xo
     split<;>rfl
  ·intro hjk;unfold Xo
   split
   ·exact .inl (by omega)
   ·rcases b (by omega) with h3|h3
    ·exact .inl (by omega)
    ·subst h3;exact .inl (by unfold Xo;omega)
theorem Zl9{rs:List Rat}{j:Nat}(hj:j<rs.length)(h1:∀i,i<j->rs.getD i 0<rs.getD j 0)(h2:∀i,j<=i->i<rs.length->rs.getD i 0<=rs.getD j 0):Zbn rs=j:=
 (ZjN hj h1 h2 rs.length (Nat.le_refl _)).1 hj
def ZaV(S:Int)(rs:List Int)(T:List Nat):List Rat:=rs.mapIdx fun i r=>if i∈T then Rat.divInt r S-1 else Rat.divInt r S
theorem YU{S:Int}{rs:List Int}{T:List Nat}{i:Nat}(hi:i<rs.length):(ZaV S rs T).getD i 0=if i∈T then Rat.divInt (rs.getD i 0) S-1 else Rat.divInt (rs.getD i 0) S:=by
 unfold ZaV;rw[List.getD_eq_getElem?_getD,List.getElem?_mapIdx,List.getElem?_eq_getElem hi,List.getD_eq_getElem?_getD,List.getElem?_eq_getElem hi];rfl
theorem VB(S:Int)(rs:List Int)(T:List Nat):(ZaV S rs T).length=rs.length:=by simp[ZaV]
theorem Zb4{S r:Int}(hS:0<S)(h:r<S):Rat.divInt r S-1<0:=by
 have e:Rat.divInt r S-1=Rat.divInt (r-S) S:=by
  rw[show(1:Rat)=Rat.divInt 1 1 from rfl,Rat.divInt_sub_divInt _ _ (by omega) (by omega)]
  congr 1<;>omega
 rw[e,show(0:Rat)=Rat.divInt 0 1 from rfl,Yq _ _ hS (by omega)];omega
theorem Zad{S r:Int}(hS:0<S)(h:0<=r):0<=Rat.divInt r S:=by
 rw[<-Rat.not_lt,show(0:Rat)=Rat.divInt 0 1 from rfl,Yq _ _ hS (by omega)];omega
theorem Zdg{S:Int}{rs:List Int}(hS:0<S)(hr:∀r∈rs,0<=r/\r<S){k:Nat}(hk:k<rs.length):Zbn (ZaV S rs ((QT rs).take k))=(QT rs)[k]'(by rw[Xf];exact hk):=by
 have hkl:k<(QT rs).length:=by rw[Xf];exact hk
 generalize hj:(QT rs)[k]=j;have hjm:j∈QT rs:=by rw[<-hj];exact List.getElem_mem _
 have hjl:j<rs.length:=Jb.1 hjm
 have hbd:∀i,i<rs.length->0<=rs.getD i 0/\rs.getD i 0<S:=by
  intro i hi;rw[List.getD_eq_getElem?_getD,List.getElem?_eq_getElem hi];exact hr _ (List.getElem_mem hi)
 have hnot:j ∉ (QT rs).take k:=by
  intro hin;obtain⟨l,hl,e⟩:=List.getElem_of_mem hin
  rw[List.getElem_take] at e;have hlk:l<k:=by rw[List.length_take] at hl;omega
  have:=List.pairwise_iff_getElem.1 (Vo rs) l k (by omega) hkl hlk
  exact this (e.trans hj.symm)
 have hafter:∀i,i<rs.length->i ∉ (QT rs).take k->VZ rs j i=true:=by
  intro i hi hin;obtain⟨l,hl,e⟩:=List.getElem_of_mem (Jb.2 hi)
  have hkl2:k<=l:=by
   rcases Nat.lt_or_ge l k with h|h
   ·exfalso
    apply hin
    rw[<-e];rw[List.mem_take_iff_getElem];exact⟨l,by omega,rfl⟩
   ·exact h
  rcases Nat.lt_or_eq_of_le hkl2 with h|h
  ·have:=List.pairwise_iff_getElem.1 (ZbU rs) k l hkl hl h
   rwa [hj,e] at this
  ·subst h;have:j=i:=hj.symm.trans e
   subst this;have:=Zct rs j j
   simpa using this
 refine Zl9 (by rw[VB];exact hjl) ?_ ?_
 ·intro i hij;have hi:i<rs.length:=by omega
  rw[YU hi,YU hjl,if_neg hnot]
  split
  ·exact Zeh (Zb4 hS (hbd i hi).2) (Zad hS (hbd j hjl).1)
  ·rename_i hin
   have:=hafter i hi hin
   unfold VZ at this;simp only[decide_eq_true_eq] at this;rw[Yq _ _ hS hS];exact Int.mul_lt_mul_of_pos_right (by omega) hS
 ·intro i hji hi;rw[VB] at hi;rw[YU hi,YU hjl,if_neg hnot]
  split
  ·exact Rat.le_of_lt (Zeh (Zb4 hS (hbd i hi).2) (Zad hS (hbd j hjl).1))
  ·rename_i hin
   have:=hafter i hi hin
   unfold VZ at this;simp only[decide_eq_true_eq] at this;rw[<-Rat.not_lt,Yq _ _ hS hS];intro h;have:=Int.lt_of_mul_lt_mul_right h (Int.le_of_lt hS)
   omega
theorem ZjO{S:Int}{rs:List Int}{k:Nat}(hk:k<rs.length){j:Nat}(hj:(QT rs)[k]'(by rw[Xf];exact hk)=j):(ZaV S rs ((QT rs).take k)).set j ((ZaV S rs ((QT rs).take k)).getD j 0-1)=ZaV S rs ((QT rs).take (k+1)):=by
 have hkl:k<(QT rs).length:=by rw[Xf];exact hk
 have hjl:j<rs.length:=Jb.1 (by rw[<-hj];exact List.getElem_mem _)
 have hnot:j ∉ (QT rs).take k:=by
  intro hin;obtain⟨l,hl,e⟩:=List.getElem_of_mem hin
  rw[List.getElem_take] at e;have hlk:l<k:=by rw[List.length_take] at hl;omega
  exact List.pairwise_iff_getElem.1 (Vo rs) l k (by omega) hkl hlk (e.trans hj.symm)
 have hm:∀i,i∈(QT rs).take (k+1)↔i∈(QT rs).take k\/i=j:=by
  intro i;rw[List.take_succ_eq_append_getElem hkl,hj];simp
 refine List.ext_getElem? fun i=> ?_
 rw[List.getElem?_set]
 by_cases hi:i<rs.length
 ·have e1:(ZaV S rs ((QT rs).take k))[i]?=some ((ZaV S rs ((QT rs).take k)).getD i 0):=by
   rw[List.getD_eq_getElem?_getD,List.getElem?_eq_getElem (by rw[VB];exact hi)];rfl
  have e2:(ZaV S rs ((QT rs).take (k+1)))[i]?=some ((ZaV S rs ((QT rs).take (k+1))).getD i 0):=by
   rw[List.getD_eq_getElem?_getD,List.getElem?_eq_getElem (by rw[VB];exact hi)];rfl
  rw[e2,YU hi]
  by_cases e:j=i
  ·subst e;rw[if_pos rfl,if_pos (by rw[VB];exact hi),YU hi,if_neg hnot,if_pos ((hm j).2 (.inr rfl))]
  ·rw[if_neg e,e1,YU hi]
   congr 1
   by_cases hin:i∈(QT rs).take k
   ·rw[if_pos hin,if_pos ((hm i).2 (.inl hin))]
   ·rw[if_neg hin,if_neg];rw[hm];rintro(h|h)
    ·exact hin h
    ·exact e h.symm
 ·rw[if_neg (fun e=>hi (by rw[<-e];exact hjl)),List.getElem?_eq_none (by rw[VB];omega),List.getElem?_eq_none (by rw[VB];omega)]
def Zdh(ps:List Int)(T:List Nat):List Int:=ps.mapIdx fun i b=>if i∈T then b+1 else b
theorem ZjP{ps rs:List Int}(hl:ps.length=rs.length){k:Nat}(hk:k<rs.length){j:Nat}(hj:(QT rs)[k]'(by rw[Xf];exact hk)=j):(Zdh ps ((QT rs).take k)).set j ((Zdh ps ((QT rs).take k)).getD j 0+1)=Zdh ps ((QT rs).take (k+1)):=by
 have hkl:k<(QT rs).length:=by rw[Xf];exact hk
 have hjl:j<ps.length:=by rw[hl];exact Jb.1 (by rw[<-hj];exact List.getElem_mem _)
 have hnot:j ∉ (QT rs).take k:=by
  intro hin;obtain⟨l,hl,e⟩:=List.getElem_of_mem hin
  rw[List.getElem_take] at e;have hlk:l<k:=by rw[List.length_take] at hl;omega
  exact List.pairwise_iff_getElem.1 (Vo rs) l k (by omega) hkl hlk (e.trans hj.symm)
 have hm:∀i,i∈(QT rs).take (k+1)↔i∈(QT rs).take k\/i=j:=by
  intro i;rw[List.take_succ_eq_append_getElem hkl,hj];simp
 have hg:∀(T:List Nat) (i:Nat),(hi:i<ps.length)->(Zdh ps T)[i]?=some (if i∈T then ps[i]+1 else ps[i]):=by
  intro T i hi;unfold Zdh;rw[List.getElem?_mapIdx,List.getElem?_eq_getElem hi];rfl
 have hlen:∀T,(Zdh ps T).length=ps.length:=fun T=>by simp[Zdh]
 refine List.ext_getElem? fun i=> ?_
 rw[List.getElem?_set]
 by_cases hi:i<ps.length
 ·by_cases e:j=i
  ·subst e;rw[if_pos rfl,if_pos (by rw[hlen];exact hi),List.getD_eq_getElem?_getD,hg ((QT rs).take k) j hi,hg ((QT rs).take (k+1)) j hi,if_neg hnot,if_pos ((hm j).2 (.inr rfl))];rfl
  ·rw[if_neg e,hg _ i hi,hg _ i hi]
   congr 1
   by_cases hin:i∈(QT rs).take k
   ·rw[if_pos hin,if_pos ((hm i).2 (.inl hin))]
   ·rw[if_neg hin,if_neg];rw[hm];rintro(h|h)
    ·exact hin h
    ·exact e h.symm
 ·rw[if_neg (fun e=>hi (by rw[<-e];exact hjl)),List.getElem?_eq_none (by rw[hlen];omega),List.getElem?_eq_none (by rw[hlen];omega)]
end
end Go.Proofs.YtkddgeclncafoaaGreatDoor
