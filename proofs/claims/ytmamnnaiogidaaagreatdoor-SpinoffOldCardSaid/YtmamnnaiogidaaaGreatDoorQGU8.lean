/- FR, Lp0, D0, A0, W0, Dv, Lp1, Lp2, Nm. -/
import Derived.Test.YtmamnnaiogidaaaGreatDoorQGU36
import Derived.Laws.IdiomStrings
set_option maxRecDepth 20000
set_option maxHeartbeats 1000000
namespace Go.Proofs.YtmamnnaiogidaaaGreatDoor
open Go.Lib renaming hid→jq
section
open Go.RowKit Go.Shelf
theorem ZgS{l:List UInt8}(hall:l.all QU=true)(hz:∀b t,l=b::t->(b==48)=false)(hn:l≠[]):Qs (45::l)=(l,true):=by
 have ht:Lib.trimPrefix (45::l) [45]=l:=by simp[Lib.trimPrefix,Lib.hasPrefix,List.isPrefixOf]
 have hp:Lib.hasPrefix (45::l) [45]=true:=by simp[Lib.hasPrefix,List.isPrefixOf]
 cases l with
 |nil=>exact absurd rfl hn
 |cons b t=>
  unfold Qs;simp only[ht,hall,hp,if_true];rw[List.dropWhile_cons,hz b t rfl];rfl
theorem Qc(n:Int):val (Qa n)=n:=by
 by_cases h0:n=0
 ·subst h0;decide+kernel
 ·have hne:n.natAbs≠0:=by omega
  obtain⟨b,l,e,h1,h2⟩:=Je n.natAbs hne
  rw[ZaH]
  by_cases hn:n<0
  ·rw[if_pos hn];have h:=ZgS (l:=QS n.natAbs) (JZ _) (fun c t e'=>by rw[e] at e';injection e' with e1 e2;rw[<-e1];exact h1) (by rw[e];simp);unfold val;rw[show([45]++QS n.natAbs:List UInt8)=45::QS n.natAbs from rfl,h];simp only[if_true,Jh];omega
  ·rw[if_neg hn,List.nil_append];unfold val;rw[Zc2 _ hne];simp only[Bool.false_eq_true,if_false,Jh];omega
theorem XQ:val []=0:=by decide+kernel
theorem ZjX{m n:Int}(h:Qa m=Qa n):m=n:=by rw[<-Qc m,h,Qc]
theorem Vt{n:Int}:Qa n=[]↔n=0:=⟨fun h=>by rw[<-Qc n,h,XQ],fun h=>by rw[h];rfl⟩
theorem Zc3(a:List UInt8):(val a).natAbs<10^a.length:=by
 have h1:=Zbm (Zbn a).1;have h2:=Zbj a;have h3:10^(Qs a).1.length<=10^a.length:=Nat.pow_le_pow_right (by omega) h2;unfold val
 split<;>omega
theorem VJ{m L:Nat}:m<10^L->(QS m).length<=L:=by
 induction L generalizing m with
 |zero=>intro h;simp at h;subst h;simp[QS]
 |succ L ih=>
  intro h
  by_cases h0:m=0
  ·subst h0;simp[QS]
  ·rw[Yw m h0,List.length_append,List.length_singleton];have:=ih (m:=m/10) (by rw[Nat.pow_succ] at h;omega)
   omega
theorem Qd{n:Int}{L:Nat}(h:n.natAbs<10^L):(Qa n).length<=L+1:=by
 have:=VJ h
 rw[ZaH,List.length_append]
 split<;>simp<;>omega
structure Fr where
 n:List UInt8
 d:List UInt8
deriving DecidableEq
theorem Fr.ext_{f g:Fr}(h1:f.n=g.n)(h2:f.d=g.d):f=g:=by cases f;cases g;simp_all
def Fr.zero:Fr:=⟨[],[]⟩
def Fr.dv(f:Fr):Int:=if val f.d=0 then 1 else val f.d
theorem Fr.dv_ne(f:Fr):f.dv≠0:=by
 unfold Fr.dv
 split
 ·omega
 ·assumption
def Fr.rat(f:Fr):Rat:=Rat.divInt (val f.n) f.dv
def Qg(q:Rat):Fr:=⟨Qa q.num,if q.den=1 then[] else Qa q.den⟩
theorem Qh(q:Rat):(Qg q).rat=q:=by
 unfold Fr.rat Fr.dv Qg;simp only[Qc]
 by_cases h:q.den=1
 ·rw[if_pos h,if_pos XQ];have:=Rat.num_divInt_den q
  rw[h] at this;exact this
 ·rw[if_neg h,Qc,if_neg (by have:=q.den_nz;omega)];exact Rat.num_divInt_den q
theorem ZjY{p q:Rat}(h:Qg p=Qg q):p=q:=by rw[<-Qh p,h,Qh]
theorem Zef:Qg 0=Fr.zero:=rfl
theorem Zc4:Fr.zero.rat=0:=by rw[<-Zef,Qh]
theorem ZdZ(q:Rat):Qg q=Fr.zero↔q=0:=by
 rw[<-Zef];exact⟨ZjY,fun h=>by rw[h]⟩
theorem ZhY(f g:Fr):f.rat+g.rat=Rat.divInt (val f.n*g.dv+val g.n*f.dv) (f.dv*g.dv):=Rat.divInt_add_divInt _ _ f.dv_ne g.dv_ne
theorem ZhZ(f g:Fr):f.rat-g.rat=Rat.divInt (val f.n*g.dv-val g.n*f.dv) (f.dv*g.dv):=Rat.divInt_sub_divInt _ _ f.dv_ne g.dv_ne
theorem Zh0(f g:Fr):f.rat*g.rat=Rat.divInt (val f.n*val g.n) (f.dv*g.dv):=Rat.divInt_mul_divInt _ _
theorem Zmc(f g:Fr):f.rat/g.rat=Rat.divInt (val f.n*g.dv) (f.dv*val g.n):=by
 unfold Fr.rat;rw[Rat.div_def,Rat.inv_divInt,Rat.divInt_mul_divInt]
theorem ZfL(f:Fr):f.rat=0↔val f.n=0:=by
 unfold Fr.rat
 constructor
 ·intro h;have h2:Rat.divInt (val f.n) f.dv=Rat.divInt 0 1:=by rw[h];rfl
  rw[Rat.divInt_eq_divInt_iff f.dv_ne (by omega)] at h2;omega
 ·intro h;rw[h,Rat.zero_divInt]
theorem Zmd(n d:Int)(hd:0<d):Int.fdiv n (Int.gcd n d)=(Rat.divInt n d).num:=by
 rw[Rat.num_divInt,Int.sign_eq_one_of_pos hd,Int.one_mul,Int.gcd_comm d n,Int.fdiv_eq_ediv_of_nonneg _ (by omega)]
theorem Zme(n d:Int)(hd:0<d):Int.fdiv d (Int.gcd n d)=(Rat.divInt n d).den:=by
 rw[Rat.den_divInt,if_neg (by omega),Int.gcd_comm d n,Int.fdiv_eq_ediv_of_nonneg _ (by omega),Int.natCast_ediv,Int.natAbs_of_nonneg (by omega)]
theorem Zmf(n d:Int)(hd:d≠0):(0:Int)<Int.gcd n d:=by
 have:=Int.gcd_pos_of_ne_zero_right n hd
 omega
theorem Zd0(n d:Int):(Rat.divInt n d).num.natAbs<=n.natAbs:=by
 rw[Rat.num_divInt];have h1:(d.sign*n/(d.gcd n:Int)).natAbs<=(d.sign*n).natAbs:=Int.natAbs_ediv_le_natAbs _ _
 have h2:(d.sign*n).natAbs<=n.natAbs:=by
  rw[Int.natAbs_mul]
  have:d.sign.natAbs<=1:=by
   rcases Int.lt_trichotomy d 0 with h|h|h
   ·rw[Int.sign_eq_neg_one_of_neg h];decide
   ·rw[h];decide
   ·rw[Int.sign_eq_one_of_pos h];decide
  calc d.sign.natAbs*n.natAbs<=1*n.natAbs:=Nat.mul_le_mul_right _ this
   _=n.natAbs:=Nat.one_mul _
 omega
theorem Zd1(n d:Int)(hd:d≠0):(Rat.divInt n d).den<=d.natAbs:=by
 rw[Rat.den_divInt,if_neg hd];exact Nat.div_le_self _ _
def RB(L:Nat)(q:Rat):Prop:=q.num.natAbs<10^L/\q.den<10^L
theorem RB.more{L M:Nat}{q:Rat}(h:RB L q)(hLM:L<=M):RB M q:=
 ⟨Nat.lt_of_lt_of_le h.1 (Nat.pow_le_pow_right (by omega) hLM),Nat.lt_of_lt_of_le h.2 (Nat.pow_le_pow_right (by omega) hLM)⟩
theorem RB.divInt{L:Nat}{n d:Int}(hn:n.natAbs<10^L)(hd:d.natAbs<10^L)(h0:d≠0):RB L (Rat.divInt n d):=
 ⟨Nat.lt_of_le_of_lt (Zd0 n d) hn,Nat.lt_of_le_of_lt (Zd1 n d h0) hd⟩
def Fr.Sz(L:Nat)(f:Fr):Prop:=f.n.length<=L/\f.d.length<=L
theorem Fr.dv_lt{f:Fr}{L:Nat}(h:f.d.length<=L)(hL:1<=L):f.dv.natAbs<10^L:=by
 unfold Fr.dv;have h1:=Zc3 f.d;have h2:10^f.d.length<=10^L:=Nat.pow_le_pow_right (by omega) h;have h3:10^1<=10^L:=Nat.pow_le_pow_right (by omega) hL
 split<;>omega
theorem Qp{a:List UInt8}{L:Nat}(h:a.length<=L):(val a).natAbs<10^L:=
 Nat.lt_of_lt_of_le (Zc3 a) (Nat.pow_le_pow_right (by omega) h)
theorem Qt{a b:Int}{L M:Nat}(ha:a.natAbs<10^L)(hb:b.natAbs<10^M):(a*b).natAbs<10^(L+M):=by
 rw[Int.natAbs_mul,Nat.pow_add];have h0:0<10^M:=Nat.pow_pos (by omega)
 rcases Nat.eq_zero_or_pos a.natAbs with h|h
 ·rw[h,Nat.zero_mul];exact Nat.mul_pos (Nat.pow_pos (by omega)) h0
 ·exact Nat.lt_of_lt_of_le (Nat.mul_lt_mul_of_pos_left hb h) (Nat.mul_le_mul_right _ (Nat.le_of_lt ha))
theorem Zc5{a b:Int}{L:Nat}(ha:a.natAbs<10^L)(hb:b.natAbs<10^L):(a+b).natAbs<10^(L+1):=by
 rw[Nat.pow_succ];omega
theorem Yf{a b:Int}{L:Nat}(ha:a.natAbs<10^L)(hb:b.natAbs<10^L):(a-b).natAbs<10^(L+1):=by
 rw[Nat.pow_succ];omega
theorem Xe{q:Rat}{L:Nat}(h:RB L q):(Qg q).Sz (L+1):=by
 refine⟨Qd h.1,?_⟩;unfold Qg;simp only
 split
 ·simp
 ·exact Qd (by simpa using h.2)
theorem Zcl{f:Fr}{L:Nat}(h:f.Sz L)(hL:1<=L):RB L f.rat:=RB.divInt (Qp h.1) (Fr.dv_lt h.2 hL) f.dv_ne
theorem Fr.Sz.more{f:Fr}{L M:Nat}(h:f.Sz L)(hLM:L<=M):f.Sz M:=⟨Nat.le_trans h.1 hLM,Nat.le_trans h.2 hLM⟩
theorem ZnH{f g:Fr}{L:Nat}(hf:f.Sz L)(hg:g.Sz L)(hL:1<=L):RB (L+L+1) (f.rat+g.rat):=by
 rw[ZhY];have h0:=Int.mul_ne_zero f.dv_ne g.dv_ne;refine RB.divInt (Zc5 (Qt (Qp hf.1) (Fr.dv_lt hg.2 hL)) (Qt (Qp hg.1) (Fr.dv_lt hf.2 hL))) ?_ h0;exact Nat.lt_of_lt_of_le (Qt (Fr.dv_lt hf.2 hL) (Fr.dv_lt hg.2 hL)) (Nat.pow_le_pow_right (by omega) (by omega))
theorem ZnI{f g:Fr}{L:Nat}(hf:f.Sz L)(hg:g.Sz L)(hL:1<=L):RB (L+L+1) (f.rat-g.rat):=by
 rw[ZhZ];have h0:=Int.mul_ne_zero f.dv_ne g.dv_ne;refine RB.divInt (Yf (Qt (Qp hf.1) (Fr.dv_lt hg.2 hL)) (Qt (Qp hg.1) (Fr.dv_lt hf.2 hL))) ?_ h0;exact Nat.lt_of_lt_of_le (Qt (Fr.dv_lt hf.2 hL) (Fr.dv_lt hg.2 hL)) (Nat.pow_le_pow_right (by omega) (by omega))
theorem ZeW{f g:Fr}{L:Nat}(hf:f.Sz L)(hg:g.Sz L)(hL:1<=L):RB (L+L) (f.rat*g.rat):=by
 rw[Zh0];exact RB.divInt (Qt (Qp hf.1) (Qp hg.1)) (Qt (Fr.dv_lt hf.2 hL) (Fr.dv_lt hg.2 hL)) (Int.mul_ne_zero f.dv_ne g.dv_ne)
def QV(x y:Rat):Int:=if x<y then-1 else if y<x then 1 else 0
def QO(n:Int):Int:=if n<0 then-1 else if 0<n then 1 else 0
theorem Zeg(a c:Int){b d:Int}(hb:0<b)(hd:0<d):Rat.divInt a b<Rat.divInt c d↔a*d<c*b:=by
 have hb':(0:Rat)<(b:Rat):=by exact_mod_cast hb
 have hd':(0:Rat)<(d:Rat):=by exact_mod_cast hd
 rw[Rat.divInt_eq_div,Rat.divInt_eq_div,Rat.div_lt_iff hb',Rat.div_def c,Rat.mul_assoc,Rat.mul_comm _ (b:Rat),<-Rat.mul_assoc,<-Rat.div_def,Rat.lt_div_iff hd']
 exact_mod_cast Iff.rfl
theorem ZjZ(x y:Rat):QV x y=QO (x-y).num:=by
 unfold QV QO
 have e1:(x-y).num<0↔x<y:=by
  have h:=Rat.num_nonneg (q:=x-y);have h2:=Rat.le_iff_sub_nonneg y x;rw[<-Rat.not_le,h2,<-h];omega
 have e2:0<(x-y).num↔y<x:=by
  have h:=Rat.num_nonneg (q:=y-x);have h2:=Rat.le_iff_sub_nonneg x y;rw[<-Rat.not_le,h2,<-h,<-Rat.neg_sub x y,Rat.neg_num];omega
 simp only[e1,e2]
def Fr.ok(f:Fr):Prop:=f=Qg f.rat
instance (f:Fr):Decidable f.ok:=inferInstanceAs (Decidable (f=Qg f.rat))
theorem ZeX(q:Rat):(Qg q).ok:=by unfold Fr.ok;rw[Qh]
end
section
open Go.RowKit Go.Shelf
structure Lot where
 id:List UInt8
 inst:List UInt8
 acq:Int
 opn:Int
 q:List UInt8
 c:List UInt8
 u:List UInt8
deriving DecidableEq
def Xo(a:List UInt8):Bool:=decide (a=Qa (val a))
theorem ZaI(n:Int):Xo (Qa n)=true:=by unfold Xo;rw[Qc];simp
def ZaX(c:UInt8):Bool:=(decide (97<=c)&&decide (c<=122))||(decide (48<=c)&&decide (c<=57))||c==95
def Qk(s:List UInt8):Bool:=decide (s≠[])&&decide (s.length<=16)&&s.all ZaX
def Zd2(s:List UInt8):Bool:=decide (1<=s.length)&&decide (s.length<=4)&&decide (s.head?≠some 48)&&s.all QU
def idB(s:List UInt8):Bool:=decide (47∈s)&&Qk (s.takeWhile (·!=47))&&Zd2 ((s.dropWhile (·!=47)).drop 1)
def Yo(d:Int):Bool:=decide (-25567<=d)&&decide (d<=84005)
def Jv(l:Lot):Int:=
 if !(idB l.id&&Qk l.inst) then 23 else if !(Yo l.acq&&Yo l.opn) then 13 else if l.opn<l.acq then 8
 else if !(Xo l.q&&Xo l.c&&Xo l.u) then 1 else if val l.q<=0\/val l.c<0\/(l.u≠[]/\l.u≠l.q) then 2 else 0
def ZaY(seen:List (List UInt8)):List Lot->Int
 |[]=>0
 |x::l=>if Jv x≠0 then Jv x else if x.id∈seen then 5 else ZaY (x.id::seen) l
def Xm(l:List Lot):Int:=if 1000<l.length then 4 else ZaY [] l
structure Lot.Ok (l:Lot):Prop where
 id:idB l.id=true
 inst:Qk l.inst=true
 acq:Yo l.acq=true
 opn:Yo l.opn=true
 ord:l.acq<=l.opn
 q:Xo l.q=true
 c:Xo l.c=true
 q0:0<val l.q
 c0:0<=val l.c
 u:l.u=[]\/l.u=l.q
theorem ZeY(l:Lot):Jv l=0↔l.Ok:=by
 unfold Jv
 constructor
 ·intro h
  split at h
  ·cases h
  rename_i h1
  split at h
  ·cases h
  rename_i h2
  split at h
  ·cases h
  rename_i h3
  split at h
  ·cases h
  rename_i h4
  split at h
  ·cases h
  rename_i h5
  simp only[Bool.not_eq_true',Bool.not_eq_false,Bool.and_eq_true] at h1 h2 h4;simp only[not_or,not_and,Int.not_le,Int.not_lt] at h5;refine⟨h1.1,h1.2,h2.1,h2.2,by omega,h4.1.1,h4.1.2,h5.1,h5.2.1,?_⟩
  by_cases hu:l.u=[]
  ·exact .inl hu
  ·exact .inr (Classical.not_not.1 (h5.2.2 hu))
 ·intro h;rw[if_neg (by simp[h.id,h.inst]),if_neg (by simp[h.acq,h.opn]),if_neg (by have:=h.ord;omega),if_neg,if_neg]
  ·simp only[not_or,not_and,Int.not_le,Int.not_lt];refine⟨h.q0,h.c0,fun hu=> ?_⟩
   rcases h.u with e|e
   ·exact absurd e hu
   ·exact fun hn=>hn e
  ·have hcu:Xo l.u=true:=by
    rcases h.u with e|e
    ·rw[e];decide+kernel
    ·rw[e];exact h.q
   simp[h.q,h.c,hcu]
theorem Zc6(seen:List (List UInt8))(l:List Lot):ZaY seen l=0↔(∀x∈l,x.Ok)/\(l.map (·.id)).Nodup/\∀x∈l,x.id ∉ seen:=by
 induction l generalizing seen with
 |nil=>simp[ZaY]
 |cons a l ih=>
  unfold ZaY
  by_cases h1:Jv a≠0
  ·rw[if_pos h1]
   constructor
   ·intro h;exact absurd h h1
   ·intro h;exact absurd ((ZeY a).2 (h.1 a (by simp))) h1
  ·rw[if_neg h1]
   by_cases h2:a.id∈seen
   ·rw[if_pos h2]
    constructor
    ·intro h;cases h
    ·intro h;exact absurd h2 (h.2.2 a (by simp))
   ·rw[if_neg h2,ih];have h1':Jv a=0:=Classical.not_not.1 h1
    constructor
    ·intro⟨ha,hb,hc⟩
     refine⟨?_,?_,?_⟩
     ·intro x hx
      rcases List.mem_cons.1 hx with rfl|hx
      ·exact(ZeY _).1 h1'
      ·exact ha x hx
     ·rw[List.map_cons,List.nodup_cons];refine⟨?_,hb⟩;intro hm;obtain⟨x,hx,e⟩:=List.mem_map.1 hm
      exact hc x hx (by simp[e])
     ·intro x hx
      rcases List.mem_cons.1 hx with rfl|hx
      ·exact h2
      ·exact fun hs=>hc x hx (by simp[hs])
    ·intro⟨ha,hb,hc⟩
     rw[List.map_cons,List.nodup_cons] at hb;refine⟨fun x hx=>ha x (by simp[hx]),hb.2,fun x hx=> ?_⟩;simp only[List.mem_cons,not_or];exact⟨fun e=>hb.1 (List.mem_map.2 ⟨x,hx,e⟩),hc x (by simp[hx])⟩
structure LotsOk (l:List Lot):Prop where
 len:l.length<=1000
 ok:∀x∈l,x.Ok
 ids:(l.map (·.id)).Nodup
theorem Yd(l:List Lot):Xm l=0↔LotsOk l:=by
 unfold Xm
 split
 ·rename_i h
  exact⟨(fun e=>absurd e (by decide)),(fun e=>absurd e.len (by omega))⟩
 ·rename_i h
  rw[Zc6];exact⟨fun e=>⟨by omega,e.1,e.2.1⟩,fun e=>⟨e.ok,e.ids,fun x _=>by simp⟩⟩
def leS(a b:List UInt8):Bool:=Op.bytesLess a b||a==b
def XY(l:List Lot)(i:List UInt8):Nat:=l.length-(l.reverse.takeWhile (fun y=> !leS y.inst i)).length
def ZbO(l:List Lot)(x:Lot):List Lot:=l.take (XY l x.inst)++x::l.drop (XY l x.inst)
def Yj(l:List Lot)(x:Lot):List Lot×Int:=
 if Xm l≠0 then([],1) else if Jv x≠0 then([],Jv x) else if x.id∈l.map (·.id) then([],5) else if 1000<=l.length then([],4) else(ZbO l x,0)
def Qb(l:List Lot)(i:List UInt8):List Lot:=l.filter (fun x=>x.inst==i)
end
section
open Go.RowKit Go.Shelf
def QA(q:Rat):Int:=q.num.fdiv q.den
def Vu(q:Rat):Int:=q.num.fmod q.den
theorem Vv{n d e:Int}(he:0<e):(n*e).fdiv (d*e)=n.fdiv d:=by
 rw[Int.mul_comm n,Int.mul_comm d,Int.mul_fdiv_mul_of_pos _ _ he]
theorem ZfO(n d:Int)(hd:d≠0):n.fdiv d=QA (Rat.divInt n d):=by
 have h1:=Rat.num_divInt_den (Rat.divInt n d);rw[Rat.divInt_eq_divInt_iff (by have:=(Rat.divInt n d).den_nz;omega) hd] at h1;unfold QA;have he:(0:Int)<(Rat.divInt n d).den:=by have:=(Rat.divInt n d).den_pos;omega
 generalize (Rat.divInt n d).num=p at*;generalize ((Rat.divInt n d).den:Int)=e at*;rw[<-Vv (n:=n) (d:=d) he,<-h1]
 rcases Int.lt_or_gt_of_ne hd with h|h
 ·have h2:=Vv (n:=p) (d:=e) (e:= -d) (by omega);rw[<-h2,Int.mul_neg,Int.mul_neg,Int.neg_fdiv_neg,Int.mul_comm e d]
 ·rw[Int.mul_comm d e,Vv h]
theorem ZcJ(q:Rat):q.den*QA q+Vu q=q.num:=by
 unfold QA Vu;exact Int.mul_fdiv_add_fmod _ _
theorem Xs(q:Rat):0<=Vu q/\Vu q<q.den:=by
 unfold Vu;have h:(0:Int)<q.den:=by have:=q.den_pos;omega
 exact⟨Int.fmod_nonneg_of_pos _ h,Int.fmod_lt_of_pos _ h⟩
def rnd(q:Rat):Int:=if(q.den:Int)<2*Vu q\/(2*Vu q=q.den/\(QA q).fmod 2≠0) then QA q+1 else QA q
theorem Zc7(q:Rat):(QA q).natAbs<=q.num.natAbs+1:=by
 have h1:=ZcJ q;obtain⟨h2,h3⟩:=Xs q
 have h4:(1:Int)<=q.den:=by have:=q.den_pos;omega
 generalize QA q=f at*;generalize Vu q=r at*;generalize (q.den:Int)=d at*;generalize q.num=n at*
 rcases Int.le_total 0 f with h|h
 ·have:1*f<=d*f:=Int.mul_le_mul_of_nonneg_right h4 h
  omega
 ·have:d*f<=1*f:=Int.mul_le_mul_of_nonpos_right h4 h
  have:f<0->d*(f+1)<=1*(f+1):=fun h5=>Int.mul_le_mul_of_nonpos_right h4 (by omega)
  rw[Int.mul_add] at this;omega
end
section
open Go.RowKit Go.Shelf
def Xj(t:Int)(ws:List Int):List Int:=ws.map fun w=>(t*w).fdiv ws.sum
def XF(t:Int)(ws:List Int):List Int:=ws.map fun w=>(t*w).fmod ws.sum
def YO(t:Int)(ws:List Int):Int:=t-(Xj t ws).sum
def Zac(rs:List Int)(i k:Nat):Bool:=decide (rs.getD k 0<rs.getD i 0\/(rs.getD i 0=rs.getD k 0/\i<=k))
def VS(rs:List Int):List Nat:=(List.range rs.length).mergeSort (Zac rs)
def upL(t:Int)(ws:List Int):List Nat:=(VS (XF t ws)).take (YO t ws).toNat
def Yv(t:Int)(ws:List Int):List Int:=(Xj t ws).mapIdx fun i b=>if i∈upL t ws then b+1 else b
theorem Qv(l m:List Int):(l++m).sum=l.sum+m.sum:=by
 induction l with
 |nil=>simp
 |cons a l ih=>simp only[List.cons_append,List.sum_cons,ih];omega
theorem QH{l:List Int}(h:∀x∈l,0<=x):0<=l.sum:=by
 induction l with
 |nil=>simp
 |cons a l ih=>
  have h1:=h a (by simp);have h2:=ih (fun x hx=>h x (by simp[hx]));simp only[List.sum_cons];omega
theorem ZeZ{l:List Int}(h:∀x∈l,0<=x){x:Int}(hx:x∈l):x<=l.sum:=by
 induction l with
 |nil=>simp at hx
 |cons a l ih=>
  have h1:=h a (by simp);have h2:=QH (fun x hx=>h x (List.mem_cons_of_mem a hx));simp only[List.sum_cons]
  rcases List.mem_cons.1 hx with e|hx
  ·omega
  ·have:=ih (fun x hx=>h x (by simp[hx])) hx;omega
theorem Zc8(t S:Int)(ws:List Int):S*(ws.map fun w=>(t*w).fdiv S).sum+(ws.map fun w=>(t*w).fmod S).sum=t*ws.sum:=by
 induction ws with
 |nil=>simp
 |cons a l ih=>
  simp only[List.map_cons,List.sum_cons,Int.mul_add] at ih ⊢;have:=Int.mul_fdiv_add_fmod (t*a) S
  omega
theorem Zd3(t:Int)(ws:List Int):ws.sum*(Xj t ws).sum+(XF t ws).sum=t*ws.sum:=Zc8 t ws.sum ws
theorem ZfP(t:Int)(ws:List Int):(XF t ws).sum=ws.sum*YO t ws:=by
 have h:=Zd3 t ws;unfold YO;rw[Int.mul_sub,Int.mul_comm ws.sum t];omega
theorem VK(t:Int){ws:List Int}(hS:0<ws.sum):∀r∈XF t ws,0<=r/\r<ws.sum:=by
 intro r hr;obtain⟨w,_,rfl⟩:=List.mem_map.1 hr
 exact⟨Int.fmod_nonneg_of_pos _ hS,Int.fmod_lt_of_pos _ hS⟩
theorem Zad(t:Int){ws:List Int}(hS:0<ws.sum):0<=YO t ws:=by
 have h1:=ZfP t ws;have h2:=QH (fun r hr=>(VK t hS r hr).1);rw[h1] at h2
 rcases Int.lt_or_le (YO t ws) 0 with h|h
 ·have:=Int.mul_neg_of_pos_of_neg hS h;omega
 ·exact h
theorem Ze0{S:Int}{l:List Int}(h:∀r∈l,0<=r/\r<S):l.sum<=S*(l.countP (fun r=>decide (0<r)):Nat)/\(0<l.sum->l.sum<S*(l.countP (fun r=>decide (0<r)):Nat)):=by
 induction l with
 |nil=>simp
 |cons a l ih=>
  obtain⟨h1,h2⟩:=ih (fun r hr=>h r (by simp[hr]))
  obtain⟨h3,h4⟩:=h a (by simp)
  simp only[List.sum_cons,List.countP_cons]
  by_cases ha:0<a
  ·simp only[ha,decide_true,if_true,Int.natCast_add,Int.mul_add]
   constructor<;>omega
  ·have:a=0:=by omega
   subst this;simp only[Int.lt_irrefl,decide_false,Bool.false_eq_true,if_false,Nat.add_zero,Int.zero_add];exact⟨h1,h2⟩
theorem VT(t:Int){ws:List Int}(hS:0<ws.sum):YO t ws<=((XF t ws).countP (fun r=>decide (0<r)):Nat):=by
 have h1:=(Ze0 (VK t hS)).1;rw[ZfP] at h1;exact Int.le_of_mul_le_mul_left h1 hS
theorem ZgX(rs:List Int)(i k:Nat):(Zac rs i k||Zac rs k i)=true:=by
 unfold Zac;simp only[Bool.or_eq_true,decide_eq_true_eq];omega
theorem ZgY(rs:List Int)(i j k:Nat)(h1:Zac rs i j=true)(h2:Zac rs j k=true):Zac rs i k=true:=by
 unfold Zac at*
 simp only[decide_eq_true_eq] at*
 omega
theorem Ji(rs:List Int):(VS rs).Perm (List.range rs.length):=List.mergeSort_perm _ _
theorem Zc9(rs:List Int):(VS rs).Nodup:=(Ji rs).nodup_iff.2 List.nodup_range
theorem ZfQ(rs:List Int):(VS rs).Pairwise (fun i k=>Zac rs i k=true):=List.pairwise_mergeSort (ZgY rs) (ZgX rs) _
theorem Zj0{rs:List Int}{i:Nat}:i∈VS rs↔i<rs.length:=by rw[(Ji rs).mem_iff];exact List.mem_range
theorem Zcm(rs:List Int):(VS rs).length=rs.length:=by rw[(Ji rs).length_eq,List.length_range]
theorem ZgZ(rs:List Int)(p:Int->Bool):(List.range rs.length).countP (fun i=>p (rs.getD i 0))=rs.countP p:=by
 induction rs with
 |nil=>simp
 |cons a l ih=>
  rw[List.length_cons,List.range_succ_eq_map,List.countP_cons,List.countP_cons,List.countP_map];simp only[List.getD_cons_zero];rw[<-ih];rfl
theorem ZnK(t:Int){ws:List Int}(hS:0<ws.sum){i:Nat}(hi:i∈upL t ws):0<(XF t ws).getD i 0:=by
 have hm:=VT t hS;have hb:=VK t hS;unfold upL at hi;generalize XF t ws=rs at*;generalize YO t ws=m at*
 rcases Int.lt_or_le 0 (rs.getD i 0) with h|h
 ·exact h
 exfalso
 obtain⟨k,hk,hki⟩:=List.getElem_of_mem hi
 have hkl:k<(VS rs).length:=by rw[List.length_take] at hk;omega
 have hkm:k<m.toNat:=by rw[List.length_take] at hk;omega
 rw[List.getElem_take] at hki
 have hsplit:(VS rs).countP (fun i=>decide (0<rs.getD i 0))<=k:=by
  rw[<-List.take_append_drop k (VS rs),List.countP_append];have h1:((VS rs).take k).countP (fun i=>decide (0<rs.getD i 0))<=k:=Nat.le_trans List.countP_le_length (by rw[List.length_take];omega)
  have h2:((VS rs).drop k).countP (fun i=>decide (0<rs.getD i 0))=0:=by
   rw[List.countP_eq_zero];intro j hj;obtain⟨l,hl,hlj⟩:=List.getElem_of_mem hj
   rw[List.getElem_drop] at hlj;have hl':k+l<(VS rs).length:=by rw[List.length_drop] at hl;omega
   have hle:rs.getD j 0<=rs.getD i 0:=by
    rcases Nat.eq_zero_or_pos l with e|e
    ·subst e;have e2:i=j:=hki.symm.trans hlj;rw[e2];exact Int.le_refl _
    ·have:=List.pairwise_iff_getElem.1 (ZfQ rs) k (k+l) hkl hl' (by omega)
     rw[hki,hlj] at this;unfold Zac at this;simp only[decide_eq_true_eq] at this;omega
   simp only[decide_eq_true_eq];omega
  omega
 rw[(Ji rs).countP_eq,ZgZ rs (fun r=>decide (0<r))] at hsplit;omega
theorem ZiE(t:Int){ws:List Int}(hS:0<ws.sum):((upL t ws).length:Int)=YO t ws:=by
 have h1:=VT t hS;have h2:=Zad t hS;have h3:(XF t ws).countP (fun r=>decide (0<r))<=(XF t ws).length:=List.countP_le_length;unfold upL;rw[List.length_take,Zcm];omega
theorem Zcn(t:Int)(ws:List Int):(Yv t ws).length=ws.length:=by simp[Yv,Xj]
theorem ZfR(t:Int)(ws:List Int)(i:Nat)(hi:i<ws.length):(Yv t ws)[i]?=some (if i∈upL t ws then(t*ws[i]).fdiv ws.sum+1 else(t*ws[i]).fdiv ws.sum):=by
 simp[Yv,Xj,hi]
theorem Zd4(l:List Int)(P:Nat->Prop)[DecidablePred P]:(l.mapIdx fun i b=>if P i then b+1 else b).sum=l.sum+((List.range l.length).countP (fun i=>decide (P i)):Nat):=by
 induction l generalizing P with
 |nil=>simp
 |cons a l ih=>
  rw[List.mapIdx_cons,List.sum_cons,List.sum_cons,List.length_cons,List.range_succ_eq_map,List.countP_cons,List.countP_map];have:=ih (fun i=>P (i+1))
  rw[this];have e:((fun i=>decide (P i)) ∘ Nat.succ)=fun i=>decide (P (i+1)):=rfl
  rw[e]
  by_cases h0:P 0<;>simp[h0]<;>omega
theorem Zj1(t:Int){ws:List Int}(hS:0<ws.sum):(Yv t ws).sum=t:=by
 unfold Yv;rw[Zd4 (Xj t ws) (fun i=>i∈upL t ws)]
 have h1:(List.range (Xj t ws).length).countP (fun i=>decide (i∈upL t ws))=(upL t ws).length:=by
  have hl:(Xj t ws).length=(XF t ws).length:=by simp[Xj,XF]
  rw[hl,<-(Ji (XF t ws)).countP_eq];have hn:=Zc9 (XF t ws);unfold upL;generalize VS (XF t ws)=o at*;generalize (YO t ws).toNat=m at*;have hd:((o.take m)++(o.drop m)).Nodup:=by rw[List.take_append_drop];exact hn
  rw[List.nodup_append] at hd
  have e:o.countP (fun i=>decide (i∈o.take m))=(o.take m).countP (fun i=>decide (i∈o.take m))+(o.drop m).countP (fun i=>decide (i∈o.take m)):=by
   rw[<-List.countP_append,List.take_append_drop]
  rw[e,List.countP_eq_length.2 (fun a ha=>by simpa using ha),List.countP_eq_zero.2 (fun a ha=>by
   simp only[decide_eq_true_eq];intro hm;exact hd.2.2 a hm a ha rfl)]
  rfl
 rw[h1,ZiE t hS];unfold YO;omega
end
section
open Go.RowKit Go.Shelf
def Qw(ws:List (List UInt8)):Int:=(ws.map val).sum
theorem ZiF(ws:List (List UInt8))(x:List UInt8):Qw (ws++[x])=Qw ws+val x:=by
 unfold Qw;rw[List.map_append,Qv];simp
theorem Zej{ws:List (List UInt8)}{k:Nat}{x:List UInt8}(h:ws[k]?=some x):Qw (ws.take (k+1))=Qw (ws.take k)+val x:=by
 obtain⟨hk,rfl⟩:=List.getElem?_eq_some_iff.1 h
 rw[List.take_succ_eq_append_getElem hk,ZiF]
theorem ZfS{ws:List (List UInt8)}{L:Nat}(h:∀x∈ws,x.length<=L):(Qw ws).natAbs<=ws.length*10^L:=by
 unfold Qw
 induction ws with
 |nil=>simp
 |cons a l ih=>
  have h1:=ih (fun x hx=>h x (by simp[hx]));have h2:=Qp (h a (by simp));simp only[List.map_cons,List.sum_cons,List.length_cons,Nat.succ_mul];omega
theorem Zbo{ws:List (List UInt8)}{L:Nat}(h:∀x∈ws,x.length<=L)(hn:ws.length<=9999):(Qa (Qw ws)).length<=L+5:=by
 refine Qd (L:=L+4) ?_;have h1:=ZfS h;have h2:ws.length*10^L<10^4*10^L:=Nat.mul_lt_mul_of_pos_right (by omega) (Nat.pow_pos (by omega));rw[Nat.pow_add,Nat.mul_comm (10^L)];omega
theorem Za1{ws:List (List UInt8)}{L:Nat}(h:∀x∈ws,x.length<=L)(hn:ws.length<=9999)(k:Nat):(Qa (Qw (ws.take k))).length<=L+5:=
 Zbo (fun x hx=>h x (List.mem_of_mem_take hx)) (by rw[List.length_take];omega)
end
section
open Go.RowKit
theorem XH(n:Int):Rat.divInt n 1=(n:Rat):=by
 have:=Rat.num_divInt_den (n:Rat)
 simpa using this
end
section
open Go.RowKit Go.Shelf
structure Mp where
 cause:List UInt8
 day:Int
 inst:List UInt8
 other:List UInt8
 ratio:Fr
 share:Fr
 price:Fr
 keep:Bool
deriving DecidableEq
def mpC(m:Mp):Int:=
 if !(Qk m.cause&&Qk m.inst&&Qk m.other) then 23 else if !Yo m.day then 13 else if ¬(m.ratio.ok/\m.share.ok/\m.price.ok) then 1
 else if m.ratio.rat<=0\/m.share.rat<0\/1<m.share.rat\/m.price.rat<0 then 2 else if m.keep=true/\m.other=m.inst then 18 else if m.keep=false/\m.share.rat≠1 then 9 else 0
structure Mp.Ok (m:Mp):Prop where
 cause:Qk m.cause=true
 inst:Qk m.inst=true
 other:Qk m.other=true
 day:Yo m.day=true
 ratio:m.ratio.ok
 share:m.share.ok
 price:m.price.ok
 r0:0<m.ratio.rat
 s0:0<=m.share.rat
 s1:m.share.rat<=1
 p0:0<=m.price.rat
 keep:m.keep=true->m.other≠m.inst
 all:m.keep=false->m.share.rat=1
theorem VU(m:Mp):mpC m=0↔m.Ok:=by
 unfold mpC
 constructor
 ·intro h
  split at h
  ·cases h
  rename_i h1
  split at h
  ·cases h
  rename_i h2
  split at h
  ·cases h
  rename_i h3
  split at h
  ·cases h
  rename_i h4
  split at h
  ·cases h
  rename_i h5
  split at h
  ·cases h
  rename_i h6
  simp only[Bool.not_eq_true',Bool.not_eq_false,Bool.and_eq_true] at h1 h2;have h3:=Classical.not_not.1 h3;simp only[not_or,Rat.not_le,Rat.not_lt] at h4;exact⟨h1.1.1,h1.1.2,h1.2,h2,h3.1,h3.2.1,h3.2.2,h4.1,h4.2.1,h4.2.2.1,h4.2.2.2,fun a b=>h5 ⟨a,b⟩,fun a=>Classical.not_not.1 (fun b=>h6 ⟨a,b⟩)⟩
 ·intro h;rw[if_neg (by simp[h.cause,h.inst,h.other]),if_neg (by simp[h.day]),if_neg (by simp[h.ratio,h.share,h.price]),if_neg,if_neg,if_neg]
  ·exact fun a=>a.2 (h.all a.1)
  ·exact fun a=>h.keep a.1 a.2
  ·simp only[not_or,Rat.not_le,Rat.not_lt];exact⟨h.r0,h.s0,h.s1,h.p0⟩
def YP(t:Int)(ws:List Int):List Int:=if ws.sum=0 then ws.map (fun _=>0) else Yv t ws
theorem Zco(t:Int)(ws:List Int):(YP t ws).length=ws.length:=by
 unfold YP
 split
 ·simp
 ·exact Zcn t ws
theorem Zda{t w S:Int}(hS:0<S)(hw:0<=w)(ht:t<=S):(t*w).fdiv S<=w/\(0<(t*w).fmod S->(t*w).fdiv S+1<=w):=by
 have h1:=Int.mul_fdiv_add_fmod (t*w) S;have h2:=Int.fmod_nonneg_of_pos (t*w) hS;have h3:t*w<=S*w:=Int.mul_le_mul_of_nonneg_right ht hw;generalize (t*w).fdiv S=d at*;generalize (t*w).fmod S=r at*
 constructor
 ·have:S*d<=S*w:=by omega
  exact Int.le_of_mul_le_mul_left this hS
 ·intro hr;have:S*d<S*w:=by omega
  have:=Int.lt_of_mul_lt_mul_left this (Int.le_of_lt hS)
  omega
theorem ZfT{t:Int}{ws:List Int}(ht:0<=t)(hw:∀w∈ws,0<=w)(hS:0<ws.sum){i:Nat}{x w:Int}(hi:(Yv t ws)[i]?=some x)(hwi:ws[i]?=some w):
 0<=x/\(t<=ws.sum->x<=w):=by
 obtain⟨hlt,e⟩:=List.getElem?_eq_some_iff.1 hwi
 have hw0:0<=w:=hw w (List.mem_of_getElem? hwi);rw[ZfR t ws i hlt,e] at hi;have h0:0<=(t*w).fdiv ws.sum:=Int.fdiv_nonneg (Int.mul_nonneg ht hw0) (Int.le_of_lt hS);injection hi with hi
 by_cases hu:i∈upL t ws
 ·rw[if_pos hu] at hi;refine⟨by omega,fun hts=> ?_⟩;have hr:=ZnK t hS hu
  have hr2:(XF t ws).getD i 0=(t*w).fmod ws.sum:=by
   unfold XF;rw[List.getD_eq_getElem?_getD,List.getElem?_map,hwi];rfl
  rw[hr2] at hr;have:=(Zda hS hw0 hts).2 hr
  omega
 ·rw[if_neg hu] at hi;exact⟨by omega,fun hts=>by have:=(Zda hS hw0 hts).1;omega⟩
theorem Ze1{l:List Int}(h:∀x∈l,0<=x)(hs:l.sum=0):∀x∈l,x=0:=by
 intro x hx;have h1:=h x hx;have h2:=ZeZ h hx;omega
theorem YQ{t:Int}{ws:List Int}(ht:0<=t)(hw:∀w∈ws,0<=w){i:Nat}{x w:Int}(hi:(YP t ws)[i]?=some x)(hwi:ws[i]?=some w):
 0<=x/\(t<=ws.sum->x<=w):=by
 unfold YP at hi
 split at hi
 ·rename_i h0
  rw[List.getElem?_map,hwi] at hi;have hi:(0:Int)=x:=Option.some.inj hi;have:=hw w (List.mem_of_getElem? hwi)
  exact⟨by omega,fun _=>by omega⟩
 ·rename_i h0
  have hs:=QH hw;exact ZfT ht hw (by omega) hi hwi
theorem Zbp{t:Int}{ws:List Int}(hw:∀w∈ws,0<=w)(h:0<ws.sum\/t=0):(YP t ws).sum=t:=by
 unfold YP
 split
 ·rename_i h0
  rcases h with h|h
  ·omega
  ·subst h;generalize ws=l
   induction l with
   |nil=>rfl
   |cons a l ih=>simpa using ih
 ·rename_i h0
  have hs:=QH hw;exact Zj1 t (by omega)
theorem Xq{t:Int}{ws:List Int}(ht:0<=t)(hw:∀w∈ws,0<=w):∀x∈YP t ws,0<=x:=by
 intro x hx;obtain⟨i,hi⟩:=List.getElem?_of_mem hx
 have hlt:=(List.getElem?_eq_some_iff.1 hi).1;rw[Zco] at hlt;exact(YQ ht hw hi (List.getElem?_eq_getElem hlt)).1
def ZbP(t p a:Int):Int:=rnd (Rat.divInt (t*p) a)
structure Plan where
 exact:Rat
 parts:Int
 part:Rat
 moved:Int
 taken:Int
 cash:Int
 n:List Int
 m:List Int
 f:List Int
 p:List Int
def Qe(old:List Lot)(m:Mp):Plan:=
 let qs:=old.map fun x=>val x.q
 let cs:=old.map fun x=>val x.c
 let ex:Rat:=((qs.sum:Int):Rat)*m.ratio.rat
 let moved:=rnd (m.share.rat*((cs.sum:Int):Rat))
 let part:=ex-((QA ex:Int):Rat)
 let taken:=if part=0 then 0 else if QA ex=0 then moved else ZbP moved (Vu ex) ex.num
 let cash:=rnd (part*m.price.rat)
 {exact:=ex,parts:=QA ex,part:=part,moved:=moved,taken:=taken,cash:=cash,n:=YP (QA ex) qs,m:=YP moved cs,f:=YP taken (YP moved cs),p:=YP cash qs}
theorem Jy(q:Rat):q=Rat.divInt q.num q.den:=(Rat.num_divInt_den q).symm
theorem Zbq(q:Rat):q-((QA q:Int):Rat)=Rat.divInt (Vu q) q.den:=by
 have hd:(q.den:Int)≠0:=by have:=q.den_nz;omega
 have h:=ZcJ q;rw[Int.mul_comm] at h;have e:((QA q:Int):Rat)=Rat.divInt (QA q) 1:=(XH (QA q)).symm;rw[e]
 conv=>lhs;lhs;rw[Jy q]
 rw[Rat.divInt_sub_divInt _ _ hd (by omega)]
 congr 1
 ·omega
 ·omega
theorem Jz{q:Rat}(h:0<=q):0<=QA q:=Int.fdiv_nonneg (Rat.num_nonneg.2 h) (by omega)
theorem Zcp(q:Rat):0<=q-((QA q:Int):Rat):=by
 rw[Zbq,<-Rat.num_nonneg,Rat.num_divInt];obtain⟨h1,h2⟩:=Xs q
 have hd:(0:Int)<q.den:=by omega
 rw[Int.sign_eq_one_of_pos hd,Int.one_mul];exact Int.ediv_nonneg h1 (by omega)
theorem JA(q:Rat):QA q<=rnd q/\(rnd q=QA q\/(rnd q=QA q+1/\Vu q≠0)):=by
 unfold rnd
 split
 ·rename_i h
  have:=Xs q
  exact⟨by omega,.inr ⟨rfl,by omega⟩⟩
 ·exact⟨by omega,.inl rfl⟩
theorem JB{q:Rat}(h:0<=q):0<=rnd q:=by
 have:=Jz h
 have:=(JA q).1
 omega
theorem Zj2{n d k:Int}(hd:0<d)(h:n<=k*d):rnd (Rat.divInt n d)<=k:=by
 have hf:=ZfO n d (by omega);have h1:=Int.mul_fdiv_add_fmod n d;have h2:=Int.fmod_nonneg_of_pos n hd;obtain⟨h3,h4⟩:=JA (Rat.divInt n d)
 have hle:n.fdiv d<=k:=by
  have:d*n.fdiv d<=d*k:=by rw[Int.mul_comm d k];omega
  exact Int.le_of_mul_le_mul_left this hd
 rcases h4 with h4|⟨h4,h5⟩
 ·omega
 ·rcases Int.lt_or_eq_of_le hle with h6|h6
  ·omega
  ·-- then n is k*d,and nothing remains
   exfalso
   have hn:n=k*d:=by
    rw[h6,Int.mul_comm d k] at h1;omega
   apply h5
   subst hn
   have e:Rat.divInt (k*d) d=((k:Int):Rat):=by
    rw[<-XH k,Rat.divInt_eq_divInt_iff (by omega) (by omega)];omega
   rw[e];unfold Vu;simp
theorem Zh2(k:Int):rnd ((k:Int):Rat)=k:=by
 have h:Vu ((k:Int):Rat)=0:=by unfold Vu;simp
 have h2:QA ((k:Int):Rat)=k:=by unfold QA;simp
 unfold rnd;rw[h,h2,if_neg];simp
structure PlanOk (old:List Lot) (m:Mp) (x:Plan):Prop where
 ex:x.exact=((((old.map fun y=>val y.q).sum:Int)):Rat)*m.ratio.rat
 exact0:0<=x.exact
 parts0:0<=x.parts
 part0:0<=x.part
 moved0:0<=x.moved
 moved1:x.moved<=(old.map fun y=>val y.c).sum
 all:m.keep=false->x.moved=(old.map fun y=>val y.c).sum
 taken0:0<=x.taken
 taken1:x.taken<=x.moved
 whole:x.part=0->x.taken=0
 none:x.part≠0->x.parts=0->x.taken=x.moved
 cash0:0<=x.cash
 cash1:x.part=0->x.cash=0
theorem Yg{old:List Lot}(h:∀y∈old,y.Ok):(∀z∈old.map (fun y=>val y.q),0<=z)/\∀z∈old.map (fun y=>val y.c),0<=z:=by
 constructor
 ·intro z hz;obtain⟨y,hy,rfl⟩:=List.mem_map.1 hz
  have:=(h y hy).q0
  omega
 ·intro z hz;obtain⟨y,hy,rfl⟩:=List.mem_map.1 hz
  exact(h y hy).c0
theorem Zae{k:Int}(h:0<=k):(0:Rat)<=(k:Rat):=by exact_mod_cast h
theorem Zg0{s:Rat}{k:Int}(hs:s<=1)(hk:0<=k):rnd (s*(k:Rat))<=k:=by
 have hd:(0:Int)<s.den:=by have:=s.den_pos;omega
 have e:s*(k:Rat)=Rat.divInt (s.num*k) s.den:=by
  conv=>lhs;rw[Jy s,<-XH k]
  rw[Rat.divInt_mul_divInt,Int.mul_one]
 rw[e];refine Zj2 hd ?_
 have hn:s.num<=s.den:=by
  have h1:s=Rat.divInt s.num s.den:=Jy s;have h2:¬(1:Rat)<s:=Rat.not_lt.2 hs;have h3:(1:Rat)=Rat.divInt 1 1:=rfl;rw[h1,h3,Zeg _ _ (by omega) hd] at h2;omega
 rw[Int.mul_comm k];exact Int.mul_le_mul_of_nonneg_right hn hk
theorem YR{old:List Lot}{m:Mp}(h:∀y∈old,y.Ok)(hm:m.Ok):PlanOk old m (Qe old m):=by
 obtain⟨hq,hc⟩:=Yg h
 have hqs:=QH hq;have hcs:=QH hc;have hex:(0:Rat)<=((((old.map fun y=>val y.q).sum:Int)):Rat)*m.ratio.rat:=Rat.mul_nonneg (Zae hqs) (Rat.le_of_lt hm.r0);have hmv:(0:Rat)<=m.share.rat*((((old.map fun y=>val y.c).sum:Int)):Rat):=Rat.mul_nonneg hm.s0 (Zae hcs);have hm0:=JB hmv;have hpt:=Zcp (((((old.map fun y=>val y.q).sum:Int)):Rat)*m.ratio.rat)
 have hshr:∀mv:Int,0<=mv->∀ex:Rat,0<=ex->QA ex≠0->0<=ZbP mv (Vu ex) ex.num/\ZbP mv (Vu ex) ex.num<=mv:=by
  intro mv hmv ex hex hne;have h1:=ZcJ ex;obtain⟨h2,h3⟩:=Xs ex
  have h4:=Jz hex;have h5:(0:Int)<=ex.den*QA ex:=Int.mul_nonneg (by omega) h4;have h6:(0:Int)<ex.den*QA ex:=Int.mul_pos (by omega) (by omega);have hn:0<ex.num:=by omega
  have hle:Vu ex<=ex.num:=by omega
  unfold ZbP
  constructor
  ·refine JB ?_;rw[<-Rat.num_nonneg,Rat.num_divInt,Int.sign_eq_one_of_pos hn,Int.one_mul];exact Int.ediv_nonneg (Int.mul_nonneg hmv h2) (by omega)
  ·exact Zj2 hn (Int.mul_le_mul_of_nonneg_left hle hmv)
 refine⟨rfl,hex,Jz hex,hpt,hm0,Zg0 hm.s1 hcs,?_,?_,?_,?_,?_,JB (Rat.mul_nonneg hpt hm.p0),?_⟩
 ·intro hk
  show rnd (m.share.rat*_)=_
  rw[hm.all hk,Rat.one_mul,Zh2]
 ·show 0<=ite _ _ _
  split
  ·omega
  ·split
   ·exact hm0
   ·rename_i h1 h2
    exact(hshr _ hm0 _ hex h2).1
 ·show ite _ _ _<=_
  split
  ·exact hm0
  ·split
   ·exact Int.le_refl _
   ·rename_i h1 h2
    exact(hshr _ hm0 _ hex h2).2
 ·intro hp;exact if_pos hp
 ·intro hp h0;exact(if_neg hp).trans (if_pos h0)
 ·intro hp
  show rnd (_*_)=0
  have hp':(Qe old m).part=0:=hp;rw[show((((old.map fun y=>val y.q).sum:Int)):Rat)*m.ratio.rat-((QA (((((old.map fun y=>val y.q).sum:Int)):Rat)*m.ratio.rat):Int):Rat)=0 from hp',Rat.zero_mul];exact Zh2 0
end
section
open Go.RowKit Go.Shelf
def Xc(n:List Int)(i:Nat):Nat:=(n.take i).countP (fun a=>decide (a≠0))
def Plan.mv(x:Plan)(i:Nat):Int:=x.m.getD i 0-x.f.getD i 0
def Plan.rest(x:Plan)(i:Nat):Int:=(((List.range i).filter fun k=>decide (x.n.getD k 0=0)).map x.mv).sum
def Xi(c:List UInt8)(k:Nat):List UInt8:=c++47::QS k
def Zg1(m:Mp)(x:Plan)(len i:Nat)(y:Lot):Lot:=
 {id:=Xi m.cause (Xc x.n i+1),inst:=m.other,acq:=y.acq,opn:=y.opn,q:=Qa (x.n.getD i 0),c:=Qa (x.mv i+if Xc x.n i=0 then x.rest len else 0),u:=Qa (x.n.getD i 0)}
def QM(m:Mp)(x:Plan)(old:List Lot)(i:Nat):List (Nat×Lot):=
 (List.range i).filterMap fun k=>match old[k]? with|some y=>if x.n.getD k 0=0 then none else some (k,Zg1 m x old.length k y)|none=>none
def QE(m:Mp)(x:Plan)(old:List Lot):List (Nat×Lot):=QM m x old old.length
def XZ(m:Mp)(x:Plan)(old:List Lot):List Lot:=(QE m x old).map (·.2)
def Qn(m:Mp)(ms:List Int):Nat->List Lot->List Lot
 |_,[]=>[]
 |k,y::l=>if y.inst=m.inst then(if m.keep=true then {y with c:=Qa (val y.c-ms.getD k 0)}::Qn m ms (k+1) l else Qn m ms (k+1) l) else y::Qn m ms k l
theorem XR(m:Mp)(x:Plan)(old:List Lot)(i:Nat):QM m x old (i+1)=QM m x old i++(match old[i]? with|some y=>if x.n.getD i 0=0 then[] else[(i,Zg1 m x old.length i y)]|none=>[]):=by
 unfold QM;rw[List.range_succ,List.filterMap_append]
 congr 1
 simp only[List.filterMap_cons,List.filterMap_nil]
 cases old[i]? with
 |none=>rfl
 |some y=>
  by_cases h:x.n.getD i 0=0
  ·simp only[if_pos h]
  ·simp only[if_neg h]
theorem Zg2(m:Mp)(ms:List Int)(k:Nat)(l:List Lot)(y:Lot):Qn m ms k (l++[y])=Qn m ms k l++Qn m ms (k+l.countP (fun z=>decide (z.inst=m.inst))) [y]:=by
 induction l generalizing k with
 |nil=>simp[Qn]
 |cons a l ih=>
  simp only[List.cons_append,Qn,List.countP_cons]
  by_cases h:a.inst=m.inst
  ·simp only[h,if_true,decide_true];rw[ih];have e:k+1+l.countP (fun z=>decide (z.inst=m.inst))=k+(l.countP (fun z=>decide (z.inst=m.inst))+1):=by omega
   rw[e]
   by_cases hk:m.keep=true<;>simp[hk,Qn]
  ·simp only[h,if_false,decide_false,Bool.false_eq_true];rw[ih];simp[Qn]
structure Gain where
 cause:List UInt8
 lot:List UInt8
 inst:List UInt8
 acq:Int
 closed:Int
 q:List UInt8
 proceeds:List UInt8
 cost:List UInt8
 deferred:List UInt8
 replaced:List UInt8
deriving DecidableEq
structure Stp where
 cause:List UInt8
 src:List UInt8
 dst:List UInt8
 q:List UInt8
 made:List UInt8
 cost:List UInt8
deriving DecidableEq
def QZ(m:Mp)(x:Plan)(old:List Lot)(i:Nat):List Gain:=
 (List.range i).filterMap fun k=>match old[k]? with
   |some y=>if x.p.getD k 0=0/\x.f.getD k 0=0 then none else some {cause:=m.cause,lot:=y.id,inst:=m.other,acq:=y.acq,closed:=m.day,q:=[],proceeds:=Qa (x.p.getD k 0),cost:=Qa (x.f.getD k 0),deferred:=[],replaced:=[]}
   |none=>none
def Xz(m:Mp)(x:Plan)(old:List Lot):List Gain:=if x.part=0 then[] else QZ m x old old.length
def Yy(s:Stp):List Stp:=if s.q=[]/\s.made=[]/\s.cost=[] then[] else[s]
def JC(m:Mp)(x:Plan)(k:Nat)(y:Lot):List Stp:=
 let gone:=if m.keep=true then[] else y.q
 if x.parts=0 then Yy {cause:=m.cause,src:=y.id,dst:=[],q:=gone,made:=[],cost:=Qa (x.f.getD k 0)}
 else Yy {cause:=m.cause,src:=y.id,dst:=Xi m.cause (if x.n.getD k 0=0 then 1 else Xc x.n k+1),q:=gone,made:=Qa (x.n.getD k 0),cost:=Qa (x.mv k)}++
  Yy {cause:=m.cause,src:=y.id,dst:=[],q:=[],made:=[],cost:=Qa (x.f.getD k 0)}
def Yk(m:Mp)(x:Plan)(old:List Lot)(i:Nat):List Stp:=(List.range i).flatMap fun k=>match old[k]? with|some y=>JC m x k y|none=>[]
def Zba(m:Mp)(x:Plan)(old:List Lot):List Stp:=Yk m x old old.length
structure Res where
 lots:List Lot
 gains:List Gain
 steps:List Stp
def Res.none:Res:=⟨[],[],[]⟩
def Xf:List Lot->List Lot->Option (List Lot)
 |l,[]=>some l
 |l,z::zs=>if(Yj l z).2≠0 then none else Xf (Yj l z).1 zs
def QQ(ls:List Lot)(m:Mp):Res×Int:=
 if Xm ls≠0\/mpC m≠0 then(Res.none,1)
 else
  let old:=Qb ls m.inst
  let x:=Qe old m
  if old=[] then(⟨ls,[],[]⟩,0)
  else if((XZ m x old).any fun z=>decide (z.id∈ls.map (·.id)))=true then(Res.none,5)
  else match Xf (Qn m x.m 0 ls) (XZ m x old) with
   |some l=>(⟨l,Xz m x old,Zba m x old⟩,0)
   |none=>(Res.none,4)
theorem Zj3(a:List UInt8):leS a a=true:=by unfold leS;simp
theorem Zg3(l:List Lot)(y:Lot)(i:List UInt8):XY (l++[y]) i=if leS y.inst i=true then l.length+1 else XY l i:=by
 unfold XY;rw[List.reverse_append,List.reverse_singleton,List.singleton_append,List.takeWhile_cons]
 cases h:leS y.inst i with
 |true=>simp
 |false=>simp
theorem Zj4(l:List Lot)(i:List UInt8):XY l i<=l.length:=by unfold XY;omega
structure CutAt (i:List UInt8) (A B:List Lot):Prop where
 b:∀y∈B,leS y.inst i=false
 a:A=[]\/∃A' y,A=A'++[y]/\leS y.inst i=true
theorem CutAt.at_{i:List UInt8}{A B:List Lot}(h:CutAt i A B):XY (A++B) i=A.length:=by
 unfold XY
 have e:((A++B).reverse.takeWhile (fun y=> !leS y.inst i))=B.reverse:=by
  rw[List.reverse_append,List.takeWhile_append_of_pos (fun y hy=>by simp[h.b y (by simpa using hy)])]
  have e2:A.reverse.takeWhile (fun y=> !leS y.inst i)=[]:=by
   rcases h.a with rfl|⟨A',y,rfl,hy⟩
   ·rfl
   ·rw[List.reverse_append];simp[hy]
  rw[e2,List.append_nil]
 rw[e];simp
theorem CutAt.put{A B:List Lot}{x:Lot}(h:CutAt x.inst A B):ZbO (A++B) x=A++x::B:=by
 unfold ZbO;rw[h.at_,List.take_left,List.drop_left]
theorem CutAt.next{A B:List Lot}{x:Lot}(h:CutAt x.inst A B):CutAt x.inst (A++[x]) B:=⟨h.b,.inr ⟨A,x,rfl,Zj3 _⟩⟩
theorem Zj5(l:List Lot)(i:List UInt8):∃A B,l=A++B/\CutAt i A B:=by
 induction l with
 |nil=>exact⟨[],[],rfl,fun _ h=>by simp at h,.inl rfl⟩
 |cons a l ih=>
  obtain⟨A,B,rfl,h⟩:=ih
  rcases h.a with rfl|⟨A',y,rfl,hy⟩
  ·cases ha:leS a.inst i with
   |true=>exact⟨[a],B,rfl,h.b,.inr ⟨[],a,rfl,ha⟩⟩
   |false=>
    refine⟨[],a::B,rfl,fun y hy=> ?_,.inl rfl⟩
    rcases List.mem_cons.1 hy with rfl|hy
    ·exact ha
    ·exact h.b y hy
  ·exact⟨a::(A'++[y]),B,rfl,h.b,.inr ⟨a::A',y,rfl,hy⟩⟩
theorem LotsOk.put{l:List Lot}{x:Lot}(h:LotsOk l)(hx:x.Ok)(hid:x.id ∉ l.map (·.id))(hl:l.length<1000){A B:List Lot}(e:l=A++B):LotsOk (A++x::B):=by
 subst e;have hp:(A++x::B).Perm (x::(A++B)):=List.perm_middle;refine⟨?_,?_,?_⟩
 ·rw[hp.length_eq];simp at hl ⊢; omega
 ·intro y hy
  rcases List.mem_cons.1 (hp.mem_iff.1 hy) with rfl|hy
  ·exact hx
  ·exact h.ok y hy
 ·rw[(hp.map (·.id)).nodup_iff,List.map_cons,List.nodup_cons];exact⟨hid,h.ids⟩
theorem Zj6{l:List Lot}{x:Lot}(h:LotsOk l)(hx:x.Ok)(hid:x.id ∉ l.map (·.id)):Yj l x=if 1000<=l.length then([],4) else(ZbO l x,0):=by
 unfold Yj;rw[if_neg (by rw[(Yd l).2 h];simp),if_neg (by rw[(ZeY x).2 hx];simp),if_neg hid]
theorem Zg4(i:List UInt8)(zs:List Lot):∀(A B:List Lot),CutAt i A B->LotsOk (A++B)->(∀z∈zs,z.Ok/\z.inst=i/\z.id ∉ (A++B).map (·.id))->(zs.map (·.id)).Nodup->
 Xf (A++B) zs=if zs=[]\/(A++B).length+zs.length<=1000 then some (A++zs++B) else none:=by
 induction zs with
 |nil=>intro A B _ _ _ _;simp[Xf]
 |cons z zs ih=>
  intro A B hc hl hz hn;obtain⟨hok,hi,hid⟩:=hz z (by simp)
  unfold Xf;rw[Zj6 hl hok hid]
  by_cases hlen:1000<=(A++B).length
  ·rw[if_pos hlen,if_pos (by simp),if_neg (by simp;simp at hlen;omega)]
  ·rw[if_neg hlen,if_neg (by simp)];subst hi
   show Xf (ZbO (A++B) z) zs=_
   rw[hc.put];have e1:A++z::B=(A++[z])++B:=by simp
   rw[e1];rw[List.map_cons,List.nodup_cons] at hn
   have hl':LotsOk ((A++[z])++B):=by
    have:=hl.put hok hid (by omega) rfl
    rw[<-e1];exact this
   rw[ih (A++[z]) B hc.next hl' (fun z' hz'=>⟨(hz z' (by simp[hz'])).1,(hz z' (by simp[hz'])).2.1,?_⟩) hn.2]
   ·have e2:((A++[z])++B).length=(A++B).length+1:=by simp;omega
    rw[e2];have e3:A++[z]++zs++B=A++(z::zs)++B:=by simp
    rw[e3];simp only[reduceCtorEq,false_or,List.length_cons]
    cases zs with
    |nil=>rw[if_pos (.inl rfl),if_pos (by simp at hlen ⊢; omega)]
    |cons z2 zs=>
     simp only[reduceCtorEq,false_or,List.length_cons]
     congr 1
     rw[eq_iff_iff];omega
   ·have h3:=(hz z' (by simp[hz'])).2.2;rw[<-e1];have hp:((A++z::B).map (·.id)).Perm (z.id::(A++B).map (·.id)):=(List.perm_middle (a:=z) (l₁:=A) (l₂:=B)).map (·.id);rw[hp.mem_iff];simp only[List.mem_cons,not_or];refine⟨fun e=>hn.1 ?_,h3⟩;rw[<-e];exact List.mem_map.2 ⟨z',hz',rfl⟩
end
section
open Go.RowKit Go.Shelf
theorem ZiX(b:UInt8):ZaX b=true↔(97<=(b.toNat:Int)/\(b.toNat:Int)<=122)\/(48<=(b.toNat:Int)/\(b.toNat:Int)<=57)\/(b.toNat:Int)=95:=by
 unfold ZaX;simp only[Bool.or_eq_true,Bool.and_eq_true,decide_eq_true_eq,beq_iff_eq,UInt8.le_iff_toNat_le,<-UInt8.toNat_inj];simp
 omega
theorem ZkB(s:List UInt8)(w:World):∃cap W1,(convert 9 140 (.string ⟨s.toArray⟩)).run Tryz.prog w=.ok (.slice (some ⟨w.1.size,0,none⟩) s.length cap) W1/\Below w.1.size w W1/\W1.1.size=w.1.size+1/\∀(j:Nat) (b:UInt8),s[j]?=some b->W1.cell? ⟨w.1.size,j,none⟩=some (.int .u8 (b.toNat:Int)):=by
 have h:=run_bytes_of_string (P:=Tryz.prog) w 9 140 5 ⟨s.toArray⟩ Tryz.underlying9 Tryz.underlying140 Tryz.underlying5;have hsz:(⟨s.toArray⟩:ByteArray).size=s.length:=QY s;rw[hsz] at h;generalize grownCap w s.length 0 5=cap at h;refine⟨_,_,h,((Below.refl _ w).drew).alloc (Nat.le_refl _) _,by simp,fun j b hj=> ?_⟩;have hb:=heap_alloc_new w.drew (.cells (bytesRow ⟨s.toArray⟩ cap) 5 ((bytesRow ⟨s.toArray⟩ cap).size,(bytesRow ⟨s.toArray⟩ cap).size+1));refine(cell_of_row _ w.1.size j _ _ _ hb).trans ?_;have hlt:=(List.getElem?_eq_some_iff.1 hj).1;unfold bytesRow;rw[Array.getElem?_append_left (by simpa using hlt),Array.getElem?_map];simp[hj]
theorem Za2{s:List UInt8}{k:Nat}{b:UInt8}(h:s[k]?=some b)(ha:(s.take k).all ZaX=true)(hb:ZaX b=true):(s.take (k+1)).all ZaX=true:=by
 obtain⟨hk,rfl⟩:=List.getElem?_eq_some_iff.1 h
 rw[List.take_succ_eq_append_getElem hk,List.all_append,ha];simp[hb]
theorem ZiY{s:List UInt8}{k:Nat}{b:UInt8}(h:s[k]?=some b)(hb:¬ZaX b=true):Qk s=false:=by
 unfold Qk
 have:s.all ZaX=false:=by
  rw[List.all_eq_false];exact⟨b,List.mem_of_getElem? h,hb⟩
 rw[this,Bool.and_false]
theorem XB(s:List UInt8):Xh 140 #[S s] (.bool (Qk s)):=by
 intro w hp;have H:=jq (Kp.start hp);have hsz:=QY s;clear hp
 rcases Nat.eq_zero_or_pos s.length with h0|h0
 ·obtain rfl:s=[]:=List.eq_nil_of_length_eq_zero h0;have HB:=jq (show Qk []=false by rfl);rw[HB.out];clear h0 hsz;unfold S;go_enter Tryz.func140,Tryz.ntmps140
  go_wp2_with fail
  first|go_ret|skip
  exact⟨rfl,H.out.bl⟩
 by_cases h1:16<s.length
 ·have HB:=jq (show Qk s=false by unfold Qk;rw[decide_eq_false (show ¬s.length<=16 by omega)];simp);rw[HB.out];have HSZ:=jq hsz;have hs1:((s.length:Int)==0)=false:=beq_false_of_ne (by omega);have hs2:(16:Int)<(s.length:Int):=by omega
  clear hsz h0 h1;unfold S;go_enter Tryz.func140,Tryz.ntmps140
  go_wp2_with fail
  first|go_ret|skip
  exact⟨rfl,H.out.bl⟩
 obtain⟨cap,W1,hcv,hbW,hszW,hcell⟩:=ZkB s w
 have HCE:=jq hcell;have H1:=jq (H.out.here hbW)
 have HOK:=jq (show s.all ZaX=true->Qk s=true by
  intro ha;unfold Qk;rw[ha,decide_eq_true (show s.length<=16 by omega),decide_eq_true (show s≠[] by intro e;rw[e] at h0;simp at h0)];rfl)
 have hs1:((s.length:Int)==0)=false:=beq_false_of_ne (by omega);have hs2:¬(16:Int)<(s.length:Int):=by omega
 obtain⟨n,hn⟩:∃n,s.length=n:=⟨_,rfl⟩
 rw[hn] at hcv;have hn16:n<=16:=by omega
 have HN:=jq hn;clear hcell hbW hszW hsz h0 h1 hn H;unfold S;go_enter Tryz.func140,Tryz.ntmps140
 go_wp2_with fail
 go_loop [16] (fun i=>∃k:Nat,k<=n/\i=.int .i64 k/\Hid ((s.take k).all ZaX=true)) (fun i=>n-(intOf i).toNat)
 case atStart=>exact⟨0,Nat.zero_le _,rfl,by show _=_;simp⟩
 case round=>
  obtain⟨k,hk,rfl,HA⟩:=hrel
  by_cases hlt:k<n
  ·obtain⟨b,hb⟩:∃b,s[k]?=some b:=⟨_,List.getElem?_eq_getElem (by have:=HN.out;omega)⟩
   have d0:=HCE.out k b hb;have HB:=jq hb;have HIF:=jq (ZiX b);clear hb
   by_cases h95:(b.toNat:Int)=95
   ·have hx:((b.toNat:Int) !=95)=false:=by simp[h95]
    go_wp2
    all_goals
     go_round
     case rel=>exact⟨k+1,by omega,by go_num,Za2 HB.out HA.out (by rw[HIF.out];omega)⟩
     case measure=>simp[intOf];omega
   ·have hx:((b.toNat:Int) !=95)=true:=by simp[h95]
    go_wp2
    all_goals first
     |(go_round
       case rel=>exact⟨k+1,by omega,by go_num,Za2 HB.out HA.out (by rw[HIF.out];omega)⟩
       case measure=>simp[intOf];omega)
     |(go_ret
       exact⟨Qi (ZiY HB.out (by rw[HIF.out];omega)).symm,H1.out.bl⟩)
  ·go_wp2
   go_ret
   exact⟨Qi (HOK.out (by have:=HA.out;rwa [List.take_of_length_le (by have:=HN.out;omega)] at this)).symm,H1.out.bl⟩
theorem Zdq(d:Int)(_h1: -9223372036854775808<=d)(_h2:d<=9223372036854775807):Xh 141 #[.int .i64 d] (.bool (Yo d)):=by
 intro w hp;have HB:=jq (show Yo d=(decide (-25567<=d)&&decide (d<=84005)) from rfl);rw[HB.out];have H:=jq (Kp.start hp);clear hp HB
 cases e1:decide (-25567<=d)<;>cases e2:decide (d<=84005)
 all_goals
  go_enter Tryz.func141,Tryz.ntmps141
  go_wp2_with fail
  first|go_ret|skip
  exact⟨rfl,H.out.bl⟩
theorem Zhj(d:Int)(_h1: -9223372036854775808<=d)(_h2:d<=9223372036854775807):Xh 198 #[.int .i64 d] (.bool (Yo d)):=by
 intro w hp;have HB:=jq (show Yo d=(decide (-25567<=d)&&decide (d<=84005)) from rfl);rw[HB.out];have H:=jq (Kp.start hp);clear hp HB
 cases e1:decide (-25567<=d)<;>cases e2:decide (d<=84005)
 all_goals
  go_enter Tryz.func198,Tryz.ntmps198
  go_wp2_with fail
  first|go_ret|skip
  exact⟨rfl,H.out.bl⟩
def wkd(d:Int):Int:=if Yo d=true then(d+3+28000)%7 else 0
theorem Zcv(d:Int)(h1: -9223372036854775808<=d)(h2:d<=9223372036854775807):Xh 146 #[.int .i64 d] (.tuple #[.int .i64 (wkd d),.int .i64 (if Yo d=true then 0 else 13)]):=by
 intro w hp;have HV:=jq (Zhj d h1 h2);have HW:=jq (show wkd d=if Yo d=true then(d+3+28000)%7 else 0 from rfl);have HD:=jq (show Yo d=true-> -25567<=d/\d<=84005 by unfold Yo;simp);have H:=jq (Kp.start hp);generalize wkd d=wd at*;generalize Yo d=db at*;clear hp
 cases db with
 |false=>
  rw[if_neg (by decide)] at HW ⊢;rw[HW.out];go_enter Tryz.func146,Tryz.ntmps146
  go_wp2_with fail
  refine(HV.out _ H.out.pw).mono ?_;rintro e w1 ⟨rfl,hb⟩;go_wp2_with fail
  first|go_ret2|skip
  exact⟨rfl,(H.out.here hb).bl⟩
 |true=>
  rw[if_pos rfl] at HW ⊢;rw[HW.out];obtain⟨a1,a2⟩:=HD.out rfl
  go_enter Tryz.func146,Tryz.ntmps146
  go_wp2_with fail
  refine(HV.out _ H.out.pw).mono ?_;rintro e w1 ⟨rfl,hb⟩;go_wp2_with fail
  first|go_ret2|skip
  exact⟨rfl,(H.out.here hb).bl⟩
end
end Go.Proofs.YtmamnnaiogidaaaGreatDoor
