/- N1, Tb, Dg, M1, N1b, R1, RO, Tbo. -/
import Derived.Test.YtkddgeclncafoaaGreatDoorQGEn27
import Derived.Test.YtkddgeclncafoaaGreatDoorShelf
import Derived.Shelf.Strings.SlTrimAscii
import Derived.Lib.ItoaNum
import Derived.Lib.LaidTab
import Derived.Lib.AppendIntMem
import Derived.Deep.DeepCutAuto
set_option maxRecDepth 20000
set_option maxHeartbeats 1000000
namespace Go.Proofs.YtkddgeclncafoaaGreatDoor
open Go.Lib renaming hid→jq
open Go.RowKit Go.Shelf
section
def S(l:List UInt8):Value:=.string ⟨l.toArray⟩
def Qr(b:UInt8):Bool:=48<=b&&b<=57
def Qi(a:List UInt8):List UInt8×Bool:=
 let s:=Lib.trimPrefix a [45]
 if s.all Qr then(s.dropWhile (·==48),Lib.hasPrefix a [45]&& !(s.dropWhile (·==48)).isEmpty) else([],false)
def VI(a:List UInt8):List UInt8:=if(Qi a).2 then 45::(Qi a).1 else(Qi a).1
def ZaE:List UInt8:=[48,49,50,51,52,53,54,55,56,57]
theorem Zb5(b:UInt8):ZaE.contains b=Qr b:=by
 have h:∀n:Fin 256,ZaE.contains (UInt8.ofNat n.val)=Qr (UInt8.ofNat n.val):=by decide+kernel
 have:=h ⟨b.toNat,b.toNat_lt⟩
 simpa using this
theorem VJ{α:Type}(p:α->Bool)(l:List α):l.dropWhile p=[]↔l.all p=true:=by
 induction l with
 |nil=>simp
 |cons a l ih=>
  rw[List.dropWhile_cons]
  cases h:p a<;>simp[h] at ih ⊢
  exact ih
theorem JC{α:Type}(p:α->Bool)(l:List α)(h:l.dropWhile p≠[]):p ((l.dropWhile p).head h)=false:=by
 induction l with
 |nil=>simp at h
 |cons a l ih=>
  cases hp:p a with
  |true=>
   have e:(a::l).dropWhile p=l.dropWhile p:=by rw[List.dropWhile_cons,hp];rfl
   simp only[e] at h ⊢;exact ih h
  |false=>
   have e:(a::l).dropWhile p=a::l:=by rw[List.dropWhile_cons,hp];rfl
   simp only[e,List.head_cons];exact hp
theorem ZdC(s:List UInt8):(Lib.trimS s ZaE=[])↔s.all Qr=true:=by
 have hc:(fun x=>ZaE.contains x)=Qr:=funext Zb5;unfold Lib.trimS Lib.trimLeftS Lib.trimRightS;rw[hc,VJ]
 constructor
 ·intro h
  by_cases hn:s.reverse.dropWhile Qr=[]
  ·rw[VJ] at hn;simpa using hn
  ·have h1:=JC Qr s.reverse hn;rw[List.all_reverse,List.all_eq_true] at h;rw[h _ (List.head_mem hn)] at h1
   cases h1
 ·intro h;have:s.reverse.dropWhile Qr=[]:=by rw[VJ];simpa using h
  rw[this];rfl
theorem Qm(l:List UInt8):(⟨l.toArray⟩:ByteArray).size=l.length:=by simp[ByteArray.size]
theorem ZjU(s:List UInt8)(w:World)(hs:s.length<=1000000000):
 Calls Tryz.prog 192 #[S s,.string ⟨#[48,49,50,51,52,53,54,55,56,57]⟩] w fun e w'=>e=.returned (S (Lib.trimS s ZaE))/\Below w.1.size w w':=by
 by_cases h0:s.length=0
 ·refine(Any.strings_Trim_empty Tryz.lays160 ⟨s.toArray⟩ _ w (.inl (by rw[Qm];exact h0))).mono ?_;rintro e w' ⟨rfl,rfl⟩;obtain rfl:s=[]:=List.eq_nil_of_length_eq_zero h0;exact⟨rfl,Below.refl _ _⟩
 ·refine(Any.strings_Trim_set Tryz.lays160 (fun _=>by kernel_rfl) (by kernel_rfl) ⟨s.toArray⟩ ⟨#[48,49,50,51,52,53,54,55,56,57]⟩ w (by decide) (by rw[Qm];omega) (by rw[Qm];omega) (by decide) (fun j b hb=> ?_)).mono ?_
  ·have h1:∀b∈([48,49,50,51,52,53,54,55,56,57]:List UInt8),b.toNat<128:=by decide
   exact h1 b (List.mem_of_getElem? hb)
  ·rintro e w' ⟨rfl,q,rfl⟩;exact⟨rfl,bdN (((Below.refl _ w).alloc (Nat.le_refl _) _).alloc (by simp) _) q⟩
theorem Vj(a p:List UInt8):(Lib.trimPrefix a p).length<=a.length:=by
 unfold Lib.trimPrefix
 split
 ·rw[List.length_drop];omega
 ·omega
theorem Zfh(l:List UInt8):(⟨l.toArray⟩:ByteArray).data.toList=l:=by simp
theorem Zcn(a:List UInt8)(w:World)(ha:a.length<=1000000000):
 Calls Tryz.prog 144 #[S a] w fun e w'=>e=.returned (.tuple #[S (Qi a).1,.bool (Qi a).2])/\Below w.1.size w w':=by
 have HC:=jq (show ∀W,Calls Tryz.prog 191 #[.string ⟨a.toArray⟩,.string ⟨#[45]⟩] W fun e w'=>e=.returned (.tuple #[.string ⟨(Lib.trimPrefix a [45]).toArray⟩,.bool (Lib.hasPrefix a [45])])/\w'=W from fun W=>Tryz.strings_CutPrefix ⟨a.toArray⟩ ⟨#[45]⟩ W);have hl:=Vj a [45];have HDG:=jq (show Qi a=if(Lib.trimPrefix a [45]).all Qr then((Lib.trimPrefix a [45]).dropWhile (·==48),Lib.hasPrefix a [45]&& !((Lib.trimPrefix a [45]).dropWhile (·==48)).isEmpty) else([],false) from rfl);generalize Lib.trimPrefix a [45]=s at*;generalize Lib.hasPrefix a [45]=neg at*;have HT:=jq (show ∀W,Calls Tryz.prog 193 #[.string ⟨s.toArray⟩,.string ⟨#[48]⟩] W fun e w'=>e=.returned (.string ⟨(s.dropWhile (·==48)).toArray⟩)/\w'=W from fun W=>Tryz.strings_TrimLeft_one ⟨s.toArray⟩ 48 (by decide) W);have HM:=jq (fun W=>ZjU s W (by omega));unfold S at*
 cases hall:s.all Qr with
 |true=>
  rw[hall] at HDG;simp only[if_true] at HDG;have hn:=(ZdC s).2 hall;rw[hn] at HM;clear hall hn;generalize s.dropWhile (·==48)=t at*
  by_cases htn:t=[]
  ·subst htn
   cases neg<;>(
    go_enter Tryz.func144,Tryz.ntmps144
    go_wp2_with (first
     |(go_at_call 191;refine(HC.out _).mono ?_;rintro e w1 ⟨rfl,rfl⟩)
     |(go_at_call 192;refine(HM.out _).mono ?_;rintro e w2 ⟨rfl,hb2⟩)
     |(go_at_call 193;refine(HT.out _).mono ?_;rintro e w3 ⟨rfl,rfl⟩))
    go_ret2
    rw[HDG.out];exact⟨rfl,hb2⟩)
  ·have hte:t.isEmpty=false:=by cases t with|nil=>exact absurd rfl htn|cons _ _=>rfl
   have hte2:(⟨t.toArray⟩:ByteArray).toList.isEmpty=false:=by rw[Lib.toList_data];simpa using hte
   have hte3:(!(⟨t.toArray⟩:ByteArray).toList.isEmpty)=true:=by rw[hte2];rfl
   cases neg<;>(
    go_enter Tryz.func144,Tryz.ntmps144
    go_wp2_with (first
     |(go_at_call 191;refine(HC.out _).mono ?_;rintro e w1 ⟨rfl,rfl⟩)
     |(go_at_call 192;refine(HM.out _).mono ?_;rintro e w2 ⟨rfl,hb2⟩)
     |(go_at_call 193;refine(HT.out _).mono ?_;rintro e w3 ⟨rfl,rfl⟩))
    go_ret2
    rw[HDG.out,hte];exact⟨rfl,hb2⟩)
 |false=>
  rw[hall] at HDG;simp only[Bool.false_eq_true,if_false] at HDG
  have hn:Lib.trimS s ZaE≠[]:=fun h=>by rw[(ZdC s).1 h] at hall;cases hall
  clear hall;generalize Lib.trimS s ZaE=t at*
  have hte:t.isEmpty=false:=by cases t with|nil=>exact absurd rfl hn|cons _ _=>rfl
  have hte2:(⟨t.toArray⟩:ByteArray).toList.isEmpty=false:=by rw[Lib.toList_data];simpa using hte
  have hte3:(!(⟨t.toArray⟩:ByteArray).toList.isEmpty)=true:=by rw[hte2];rfl
  go_enter Tryz.func144,Tryz.ntmps144
  go_wp2_with (first
   |(go_at_call 191;refine(HC.out _).mono ?_;rintro e w1 ⟨rfl,rfl⟩)
   |(go_at_call 192;refine(HM.out _).mono ?_;rintro e w2 ⟨rfl,hb2⟩))
  go_ret2
  rw[HDG.out];exact⟨rfl,hb2⟩
theorem Zdk{α:Type}(p:α->Bool)(l:List α):(l.dropWhile p).length<=l.length:=by
 induction l with
 |nil=>simp
 |cons a l ih=>
  rw[List.dropWhile_cons]
  split
  ·rw[List.length_cons];omega
  ·exact Nat.le_refl _
theorem Xl(a:List UInt8):(Qi a).1.length<=a.length:=by
 unfold Qi;simp only
 split
 ·exact Nat.le_trans (Zdk _ _) (Vj a [45])
 ·simp
theorem Zdl(u:Nat)(h:u<10^19):(Lib.decDigits u).length<=19:=by
 have:∀k u,u<10^(k+1)->(Lib.decDigits u).length<=k+1:=by
  intro k
  induction k with
  |zero=>intro u h;rw[Lib.decDigits,dif_pos (by omega)];simp
  |succ k ih=>
   intro u h;rw[Lib.decDigits]
   split
   ·simp
   ·rw[List.length_append];have:=ih (u/10) (by rw[Nat.pow_succ] at h;omega)
    simp;omega
 exact this 18 u h
end
section
def Pow(w:World):Prop:=Lib.TabIs Tryz.prog w "internal/strconv.uint64pow10" .u64 Lib.pow10Tab
theorem Pow.here{w w':World}(h:Pow w)(hb:Below w.1.size w w'):Pow w':=Lib.tabBelow_of_tabIs h w' hb
end
section
def Qa(n:Int):List UInt8:=if n=0 then[] else if n<0 then 45::Lib.decDigits n.natAbs else Lib.decDigits n.natAbs
def QS(m:Nat):List UInt8:=if m=0 then[] else Lib.decDigits m
theorem Xx(m:Nat)(h:m≠0):QS m=QS (m/10)++[UInt8.ofNat (48+m%10)]:=by
 unfold QS;rw[if_neg h,Lib.decDigits]
 split
 ·rename_i hlt
  rw[if_pos (by omega),show m%10=m by omega];rfl
 ·rename_i hlt
  rw[if_neg (by omega)]
theorem Zmk(r:Nat)(h:r<10):Utf8.encode (48+(r:Int))=⟨#[UInt8.ofNat (48+r)]⟩:=by
 have:∀r:Fin 10,Utf8.encode (48+(r.val:Int))=⟨#[UInt8.ofNat (48+r.val)]⟩:=by decide+kernel
 exact this ⟨r,h⟩
theorem Za0(k:Nat):Utf8.encode (48+(k:Int)%10)=⟨#[UInt8.ofNat (48+k%10)]⟩:=by
 have:=Zmk (k%10) (by omega)
 rwa [show((k%10:Nat):Int)=(k:Int)%10 by omega] at this
theorem YY(k:Nat):(Utf8.encode (48+(k:Int)%10)).size<=1:=by rw[Za0];exact Nat.le_refl _
theorem Zfj(m:Nat)(h:m<10^19):(QS m).length<=19:=by
 unfold QS
 split
 ·simp
 ·exact Zdl m h
theorem Zfk(m:Nat)(h:m≠0):1<=(QS m).length:=by rw[Xx m h,List.length_append];simp
theorem VS(a b:List UInt8):(⟨a.toArray⟩:ByteArray)++⟨b.toArray⟩=⟨(a++b).toArray⟩:=ByteArray.mk_append_mk a b
theorem ZdD(d:Nat)(h:d<10):Qr (UInt8.ofNat (48+d))=true:=by
 have:∀d:Fin 10,Qr (UInt8.ofNat (48+d.val))=true:=by decide+kernel
 exact this ⟨d,h⟩
theorem JE(m:Nat):(QS m).all Qr=true:=by
 induction m using Nat.strongRecOn with
 |_ m ih=>
  by_cases h:m=0
  ·subst h;rfl
  ·rw[Xx m h,List.all_append,ih (m/10) (by omega)];simp only[List.all_cons,List.all_nil,Bool.and_true,Bool.true_and];exact ZdD (m%10) (by omega)
theorem Zai(m:Nat)(h:m≠0):∃b l,QS m=b::l/\(b==48)=false/\(b==45)=false:=by
 induction m using Nat.strongRecOn with
 |_ m ih=>
  rw[Xx m h]
  by_cases h10:m/10=0
  ·rw[h10];refine⟨UInt8.ofNat (48+m%10),[],rfl,?_,?_⟩
   ·have:∀d:Fin 10,d.val≠0->(UInt8.ofNat (48+d.val)==48)=false:=by decide+kernel
    exact this ⟨m%10,by omega⟩ (by simp only;omega)
   ·have:∀d:Fin 10,(UInt8.ofNat (48+d.val)==45)=false:=by decide+kernel
    exact this ⟨m%10,by omega⟩
  ·obtain⟨b,l,e,h1,h2⟩:=ih (m/10) (by omega) h10
   rw[e];exact⟨b,l++[UInt8.ofNat (48+m%10)],rfl,h1,h2⟩
theorem ZgF(m:Nat)(h:m≠0):Qi (QS m)=(QS m,false):=by
 obtain⟨b,l,e,h1,h2⟩:=Zai m h
 have hall:=JE m
 have hp:Lib.hasPrefix (QS m) [45]=false:=by
  rw[e];unfold Lib.hasPrefix
  have h3:(45==b)=false:=by
   rw[Bool.eq_false_iff] at h2 ⊢;intro hh;apply h2;simp at hh ⊢; exact hh.symm
  simp[List.isPrefixOf,h3]
 have ht:Lib.trimPrefix (QS m) [45]=QS m:=by unfold Lib.trimPrefix;rw[hp];rfl
 unfold Qi;simp only[ht,hall,hp,if_true,Bool.false_and];rw[e,List.dropWhile_cons,h1];rfl
theorem VT(m:Nat):Qa (m:Int)=QS m:=by
 unfold Qa QS
 by_cases h:m=0
 ·subst h;rfl
 ·rw[if_neg (by omega),if_neg (by omega),if_neg h];simp
end
section
def gv:List Nat->Nat
 |[]=>0
 |x::xs=>x+1000000000*gv xs
def Gs(xs:List Nat):Prop:=∀x∈xs,x<1000000000
def Nz(xs:List Nat):Prop:=xs.getLast?≠some 0
structure Mag (xs:List Nat) (v:Nat):Prop where
 gs:Gs xs
 nz:Nz xs
 val:gv xs=v
theorem VU(xs ys:List Nat):gv (xs++ys)=gv xs+1000000000^xs.length*gv ys:=by
 induction xs with
 |nil=>simp[gv]
 |cons x xs ih=>
  rw[List.cons_append,gv,ih,gv,List.length_cons,Nat.pow_succ,Nat.mul_add,Nat.add_assoc,<-Nat.mul_assoc,Nat.mul_comm (1000000000^xs.length) 1000000000]
theorem YB(xs:List Nat)(g:Nat):gv (xs++[g])=gv xs+1000000000^xs.length*g:=by rw[VU];simp[gv]
theorem Gs.nil:Gs []:=fun x hx=>by cases hx
theorem Gs.snoc{xs:List Nat}{g:Nat}(h:Gs xs)(hg:g<1000000000):Gs (xs++[g]):=fun x hx=>by
 rcases List.mem_append.1 hx with h1|h1
 ·exact h x h1
 ·simp at h1;rw[h1];exact hg
theorem Gs.take{xs:List Nat}(h:Gs xs)(k:Nat):Gs (xs.take k):=fun x hx=>h x (List.mem_of_mem_take hx)
theorem Gs.at_{xs:List Nat}(h:Gs xs){i g:Nat}(hi:xs[i]?=some g):g<1000000000:=h g (List.mem_of_getElem? hi)
theorem YW{xs:List Nat}(h:Gs xs):gv xs<1000000000^xs.length:=by
 induction xs with
 |nil=>simp[gv]
 |cons x xs ih=>
  have h1:=ih (fun y hy=>h y (by simp[hy]));have h2:=h x (by simp);rw[gv,List.length_cons,Nat.pow_succ];omega
theorem Zbq{xs:List Nat}(hn:xs≠[])(h:Nz xs):1000000000^(xs.length-1)<=gv xs:=by
 obtain⟨ys,g,rfl⟩:∃ys g,xs=ys++[g]:=⟨xs.dropLast,xs.getLast hn,(List.dropLast_concat_getLast hn).symm⟩
 have hg:g≠0:=fun e=>h (by rw[e];simp)
 rw[YB,List.length_append,List.length_singleton,Nat.add_sub_cancel];exact Nat.le_trans (Nat.le_mul_of_pos_right _ (by omega)) (Nat.le_add_left _ _)
theorem Yb(xs:List Nat)(i:Nat)(g:Nat)(h:xs[i]?=some g):gv (xs.take (i+1))=gv (xs.take i)+1000000000^i*g:=by
 obtain⟨hi,rfl⟩:=List.getElem?_eq_some_iff.1 h
 rw[List.take_succ_eq_append_getElem hi,YB,List.length_take,Nat.min_eq_left (by omega)]
theorem XK(xs:List Nat)(i:Nat)(g:Nat)(h:xs[i]?=some g):gv (xs.drop i)=g+1000000000*gv (xs.drop (i+1)):=by
 obtain⟨hi,rfl⟩:=List.getElem?_eq_some_iff.1 h
 rw[List.drop_eq_getElem_cons hi,gv]
theorem YG(xs:List Nat)(i:Nat)(hi:i<=xs.length):gv xs=gv (xs.take i)+1000000000^i*gv (xs.drop i):=by
 have:=VU (xs.take i) (xs.drop i)
 rw[List.take_append_drop,List.length_take,Nat.min_eq_left hi] at this;exact this
theorem Mag.zero:Mag [] 0:=⟨Gs.nil,by unfold Nz;simp,rfl⟩
theorem Mag.nil_iff{xs:List Nat}{v:Nat}(h:Mag xs v):xs=[]↔v=0:=by
 constructor
 ·rintro rfl;exact h.val.symm
 ·intro hv
  by_cases hn:xs=[]
  ·exact hn
  ·have:=Zbq hn h.nz
   rw[h.val,hv] at this;have:=Nat.pow_pos (n:=xs.length-1) (show 0<1000000000 by decide)
   omega
theorem Mag.len{xs:List Nat}{v k:Nat}(h:Mag xs v)(hv:v<1000000000^k):xs.length<=k:=by
 by_cases hn:xs=[]
 ·rw[hn];simp
 ·have h1:=Zbq hn h.nz;rw[h.val] at h1;have h2:=Nat.lt_of_le_of_lt h1 hv;have:=(Nat.pow_lt_pow_iff_right (show 1<1000000000 by decide)).1 h2
  omega
theorem Zfl{α:Type}{P:List α->Prop}(h0:P [])(h1:∀l b,P l->P (l++[b]))(l:List α):P l:=by
 have:∀l:List α,P l.reverse:=by
  intro l
  induction l with
  |nil=>exact h0
  |cons a l ih=>rw[List.reverse_cons];exact h1 _ _ ih
 have h:=this l.reverse
 rwa [List.reverse_reverse] at h
def Ql(l:List UInt8):Nat:=l.foldl (fun n b=>10*n+(b.toNat-48)) 0
theorem ZaF(l:List UInt8)(n:Nat):l.foldl (fun n b=>10*n+(b.toNat-48)) n=n*10^l.length+Ql l:=by
 induction l generalizing n with
 |nil=>simp[Ql]
 |cons b l ih=>
  have e:Ql (b::l)=(10*0+(b.toNat-48))*10^l.length+Ql l:=by unfold Ql;rw[List.foldl_cons];exact ih _
  rw[List.foldl_cons,ih,e,List.length_cons,Nat.pow_succ,Nat.add_mul,Nat.mul_comm 10 n,Nat.mul_assoc,Nat.mul_comm 10 (10^l.length),Nat.mul_zero,Nat.zero_add,Nat.add_assoc]
theorem YH(l l':List UInt8):Ql (l++l')=Ql l*10^l'.length+Ql l':=by
 unfold Ql;rw[List.foldl_append,ZaF];rfl
theorem Vd(l:List UInt8)(b:UInt8):Ql (l++[b])=10*Ql l+(b.toNat-48):=by
 rw[YH,Nat.mul_comm];simp[Ql]
theorem QE(b:UInt8):Qr b=true↔48<=b.toNat/\b.toNat<=57:=by
 unfold Qr;simp[UInt8.le_iff_toNat_le]
theorem XC{l:List UInt8}:l.all Qr=true->Ql l<10^l.length:=by
 refine Zfl (P:=fun l=>l.all Qr=true->Ql l<10^l.length) ?_ ?_ l
 ·intro _;simp[Ql]
 ·intro l b ih h;rw[List.all_append] at h;simp only[List.all_cons,List.all_nil,Bool.and_true,Bool.and_eq_true] at h;have h1:=ih h.1;have h2:=(QE b).1 h.2;rw[Vd,List.length_append,List.length_singleton,Nat.pow_succ];omega
theorem ZjW(b:UInt8)(h:Qr b=true):UInt8.ofNat (48+(b.toNat-48))=b:=by
 have h2:=(QE b).1 h;rw[show 48+(b.toNat-48)=b.toNat by omega];simp
theorem Zaj{b:UInt8}{l:List UInt8}(h:(b::l).all Qr=true)(hb:(b==48)=false):Ql (b::l)≠0:=by
 have h1:Qr b=true:=by simp at h;exact h.1
 have h2:=(QE b).1 h1
 have h3:b.toNat≠48:=fun e=>by
  have:b=48:=UInt8.toNat_inj.1 e
  rw[this] at hb;simp at hb
 unfold Ql;rw[List.foldl_cons,ZaF];have:=Nat.pow_pos (n:=l.length) (show 0<10 by decide)
 have:0<(10*0+(b.toNat-48))*10^l.length:=Nat.mul_pos (by omega) this
 omega
theorem VV{l:List UInt8}:l.all Qr=true->(∀b t,l=b::t->(b==48)=false)->QS (Ql l)=l:=by
 refine Zfl (P:=fun l=>l.all Qr=true->(∀b t,l=b::t->(b==48)=false)->QS (Ql l)=l) ?_ ?_ l
 ·intro _ _;simp[Ql,QS]
 ·intro l b ih h hz;have h':=h;rw[List.all_append] at h;simp only[List.all_cons,List.all_nil,Bool.and_true,Bool.and_eq_true] at h;have h2:=(QE b).1 h.2
  have hne:Ql (l++[b])≠0:=by
   cases l with
   |nil=>exact Zaj h' (hz b [] rfl)
   |cons c t=>exact Zaj h' (hz c (t++[b]) rfl)
  rw[Xx _ hne,Vd,show(10*Ql l+(b.toNat-48))/10=Ql l by omega,show(10*Ql l+(b.toNat-48))%10=b.toNat-48 by omega,ZjW b h.2,ih h.1 (fun c t e=>hz c (t++[b]) (by rw[e];rfl))]
theorem Zak(m:Nat):Ql (QS m)=m:=by
 induction m using Nat.strongRecOn with
 |_ m ih=>
  by_cases h:m=0
  ·subst h;rfl
  ·rw[Xx m h,Vd,ih (m/10) (by omega)];have:(UInt8.ofNat (48+m%10)).toNat=48+m%10:=by simp;omega
   omega
def val(a:List UInt8):Int:=if(Qi a).2 then-(Ql (Qi a).1:Int) else Ql (Qi a).1
theorem XD(a:List UInt8):(Qi a).1.all Qr=true/\(∀b t,(Qi a).1=b::t->(b==48)=false)/\((Qi a).2=true->(Qi a).1≠[]):=by
 unfold Qi;simp only
 split
 ·rename_i h
  refine⟨?_,?_,?_⟩
  ·rw[List.all_eq_true] at h ⊢;exact fun x hx=>h x ((List.dropWhile_sublist _).subset hx)
  ·intro b t e;have e':(Lib.trimPrefix a [45]).dropWhile (·==48)=b::t:=e;clear e;have e:=e';have hne:(Lib.trimPrefix a [45]).dropWhile (·==48)≠[]:=by rw[e];simp
   have:=JC (·==48) (Lib.trimPrefix a [45]) hne
   simp only[e,List.head_cons] at this;exact this
  ·intro hh;simp only[Bool.and_eq_true,Bool.not_eq_true'] at hh;intro e;have e':(Lib.trimPrefix a [45]).dropWhile (·==48)=[]:=e;rw[e'] at hh;simp at hh
 ·simp
theorem Zfm(a:List UInt8):(Qi a).1=QS (val a).natAbs:=by
 obtain⟨h1,h2,_⟩:=XD a
 unfold val
 split
 ·rw[Int.natAbs_neg,Int.natAbs_natCast,VV h1 h2]
 ·rw[Int.natAbs_natCast,VV h1 h2]
theorem Zca(a:List UInt8):(Qi a).2=decide (val a<0):=by
 obtain⟨h1,h2,h3⟩:=XD a
 unfold val
 cases hn:(Qi a).2 with
 |false=>simp
 |true=>
  have hne:=h3 hn
  have hv:Ql (Qi a).1≠0:=by
   cases he:(Qi a).1 with
   |nil=>exact absurd he hne
   |cons b t=>rw[he] at h1;exact Zaj h1 (h2 b t he)
  simp;omega
theorem Yp(n:Int):Qa n=(if n<0 then[45] else[])++QS n.natAbs:=by
 unfold Qa QS
 by_cases h:n=0
 ·subst h;rfl
 ·rw[if_neg h,if_neg (by omega:n.natAbs≠0)]
  split<;>rfl
theorem Zbr(a:List UInt8):VI a=Qa (val a):=by
 unfold VI;rw[Zca,Zfm,Yp]
 by_cases h:val a<0
 ·simp[h]
 ·simp[h]
def Vk:Nat->Nat->List UInt8
 |0,_=>[]
 |k+1,g=>Vk k (g/10)++[UInt8.ofNat (48+g%10)]
theorem Zfn(k g:Nat):(Vk k g).length=k:=by
 induction k generalizing g with
 |zero=>rfl
 |succ k ih=>rw[Vk,List.length_append,ih];rfl
theorem ZjX(k:Nat):∀(x g:Nat),x≠0->g<10^k->QS (10^k*x+g)=QS x++Vk k g:=by
 induction k with
 |zero=>intro x g hx hg;simp at hg;subst hg;simp[Vk]
 |succ k ih=>
  intro x g hx hg;rw[Nat.pow_succ] at hg
  have e1:10^(k+1)*x+g=10*(10^k*x+g/10)+g%10:=by
   rw[Nat.pow_succ,Nat.mul_add,<-Nat.mul_assoc,Nat.mul_comm 10 (10^k)];omega
  have hne:10^(k+1)*x+g≠0:=by
   have:=Nat.mul_pos (Nat.pow_pos (n:=k+1) (show 0<10 by decide)) (Nat.pos_of_ne_zero hx)
   omega
  rw[Xx _ hne,e1,show(10*(10^k*x+g/10)+g%10)/10=10^k*x+g/10 by omega,show(10*(10^k*x+g/10)+g%10)%10=g%10 by omega,ih x (g/10) hx (by omega),Vk,List.append_assoc]
theorem ZhN(k:Nat):∀g:Nat,g<10^(k+1)->(Lib.decDigits g).length<=k+1/\List.replicate (k+1-(Lib.decDigits g).length) 48++Lib.decDigits g=Vk (k+1) g:=by
 induction k with
 |zero=>
  intro g hg;rw[Lib.decDigits,dif_pos (by omega)];refine⟨by simp,?_⟩;simp only[Vk,List.nil_append];rw[Nat.mod_eq_of_lt (by omega)];rfl
 |succ k ih=>
  intro g hg;rw[Nat.pow_succ] at hg
  by_cases h10:g<10
  ·rw[Lib.decDigits,dif_pos h10];refine⟨by simp,?_⟩;obtain⟨i1,i2⟩:=ih (g/10) (by omega)
   have e0:g/10=0:=by omega
   rw[e0,Lib.decDigits,dif_pos (by omega)] at i2;rw[Vk,e0,<-i2,Nat.mod_eq_of_lt h10];simp only[List.length_cons,List.length_nil,Nat.zero_add,Nat.add_sub_cancel];rw[List.replicate_succ',List.append_assoc,List.append_assoc];rfl
  ·rw[Lib.decDigits,dif_neg h10];obtain⟨i1,i2⟩:=ih (g/10) (by omega)
   refine⟨by rw[List.length_append];simp;omega,?_⟩;rw[Vk,<-i2,List.length_append,List.length_singleton,show k+1+1-((Lib.decDigits (g/10)).length+1)=k+1-(Lib.decDigits (g/10)).length by omega,List.append_assoc]
theorem ZgG(x g:Nat)(hx:x≠0)(hg:g<1000000000):QS (g+1000000000*x)=QS x++(List.replicate (9-(Lib.decDigits g).length) 48++Lib.decDigits g):=by
 have h:=ZjX 9 x g hx (by omega);rw[(ZhN 8 g (by omega)).2,<-h]
 congr 1
 omega
end
section
theorem Zay(a:List UInt8)(w:World)(ha:a.length<=1000000000):
 Calls Tryz.prog 92 #[S a] w fun e w'=>e=.returned (S (VI a))/\Below w.1.size w w':=by
 have H:=jq (Zcn a w ha);have HC:=jq (show VI a=if(Qi a).2 then 45::(Qi a).1 else(Qi a).1 from rfl);have hl:=Xl a;have hl2:(Qi a).1.length<=1000000000:=by omega
 clear hl;generalize (Qi a).1=t at*;generalize (Qi a).2=neg at*;unfold S at*
 cases neg with
 |true=>
  have hsz:(⟨t.toArray⟩:ByteArray).size<=1000000000:=by rw[Qm];exact hl2
  go_enter Tryz.func92,Tryz.ntmps92
  go_wp2_with (go_at_call 144;refine H.out.mono ?_;rintro e w1 ⟨rfl,hb1⟩)
  go_ret
  rw[HC.out];exact⟨congrArg (fun b=>Ending.returned (.string b)) (ByteArray.mk_append_mk [45] t),hb1⟩
 |false=>
  go_enter Tryz.func92,Tryz.ntmps92
  go_wp2_with (go_at_call 144;refine H.out.mono ?_;rintro e w1 ⟨rfl,hb1⟩)
  go_ret
  rw[HC.out];exact⟨by simp,hb1⟩
end
section
theorem ZcM(l:List UInt8)(a b:Nat):(⟨l.toArray⟩:ByteArray).extract a b=⟨((l.take b).drop a).toArray⟩:=by
 apply ByteArray.ext
 rw[ByteArray.data_extract,List.extract_toArray,List.extract_eq_take_drop,List.drop_take]
theorem YX{l:List UInt8}{k:Nat}{b:UInt8}(h:l[k]?=some b)(hk:k<(⟨l.toArray⟩:ByteArray).size):(⟨l.toArray⟩:ByteArray)[k]=b:=by
 obtain⟨h1,rfl⟩:=List.getElem?_eq_some_iff.1 h
 rfl
theorem Zie(b:UInt8)(t:List UInt8)(n:Nat)(hn:n=t.length+1):(⟨(b::t).toArray⟩:ByteArray).extract 1 n=⟨t.toArray⟩:=by
 rw[ZcM,hn,List.take_of_length_le (by simp)];rfl
theorem Zja(b:UInt8)(t:List UInt8):Lib.hasPrefix (b::t) [45]=(b==45):=by
 unfold Lib.hasPrefix;simp only[List.isPrefixOf,Bool.and_true];exact Bool.beq_comm
theorem ZkU(b:UInt8)(t:List UInt8):Lib.trimPrefix (b::t) [45]=if b==45 then t else b::t:=by
 unfold Lib.trimPrefix;rw[Zja];rfl
theorem ZkV(b:UInt8)(k:Nat)(hk:k<256):((b.toNat:Int)==(k:Int))=(b==UInt8.ofNat k):=by
 rw[Bool.eq_iff_iff];simp only[beq_iff_eq]
 constructor
 ·intro h
  apply UInt8.toNat_inj.1
  rw[UInt8.toNat_ofNat'];omega
 ·intro h;rw[h,UInt8.toNat_ofNat'];omega
theorem ZcN{s:List UInt8}{k:Nat}{b:UInt8}(h:s[k]?=some b)(ha:(s.take k).all Qr=true)(hb:Qr b=true):(s.take (k+1)).all Qr=true:=by
 obtain⟨hk,rfl⟩:=List.getElem?_eq_some_iff.1 h
 rw[List.take_succ_eq_append_getElem hk,List.all_append,ha];simpa using hb
theorem Zif{s:List UInt8}{k:Nat}{b:UInt8}(h:s[k]?=some b)(hb:¬Qr b=true):s.all Qr=false:=by
 rw[Bool.eq_false_iff];intro h2;rw[List.all_eq_true] at h2;exact hb (h2 b (List.mem_of_getElem? h))
theorem Xg(a:List UInt8)(w:World)(ha:a.length<=1000000000):
 Calls Tryz.prog 100 #[S a] w fun e w'=>e=.returned (.tuple #[S (Qi a).1,.bool (Qi a).2])/\w=w':=by
 have HDG:=jq (show Qi a=if(Lib.trimPrefix a [45]).all Qr then((Lib.trimPrefix a [45]).dropWhile (·==48),Lib.hasPrefix a [45]&& !((Lib.trimPrefix a [45]).dropWhile (·==48)).isEmpty) else([],false) from rfl);have hl:=Vj a [45];obtain⟨s,hs⟩:∃s,Lib.trimPrefix a [45]=s:=⟨_,rfl⟩
 obtain⟨neg,hn⟩:∃neg,Lib.hasPrefix a [45]=neg:=⟨_,rfl⟩
 rw[hs,hn] at HDG;rw[hs] at hl;have HS:=jq hs;have HN:=jq hn;clear hs hn;unfold S at*
 go_enter Tryz.func100,Tryz.ntmps100
 go_upto_region 2 with (fail)
 go_cut [5] (fun v wc=>v=.bool neg/\wc=w)
 case first=>
  cases a with
  |nil=>
   go_wp2
   go_meet
   exact⟨by rw[<-HN.out];rfl,rfl⟩
  |cons b t=>
   have h0:0<(⟨(b::t).toArray⟩:ByteArray).size:=by rw[Qm];simp
   have hb:(⟨(b::t).toArray⟩:ByteArray)[0]=b:=YX rfl h0
   go_wp2
   go_meet
   exact⟨by rw[<-HN.out,Zja];exact congrArg Value.bool (ZkV b 45 (by omega)),rfl⟩
 case rest=>
 obtain⟨rfl,rfl⟩:=hcut
 go_upto_if 16 with (fail)
 go_cut [4] (fun v w1=>v=.string ⟨s.toArray⟩/\w1=wc)
 case first=>
  cases a with
  |nil=>
   obtain rfl:false=neg:=HN.out;obtain rfl:[]=s:=HS.out
   go_wp2
   go_meet
   exact⟨rfl,rfl⟩
  |cons b t=>
   have hlen:(⟨(b::t).toArray⟩:ByteArray).size=t.length+1:=by rw[Qm];rfl
   have HLE:=jq hlen
   cases neg with
   |true=>
    have HT:=jq (show t=s by have h1:=HS.out;have h2:=HN.out;rw[Zja] at h2;rw[ZkU,h2] at h1;exact h1)
    go_wp2
    go_meet
    exact⟨by rw[<-HT.out,Zie b t _ rfl],rfl⟩
   |false=>
    have HT:=jq (show b::t=s by have h1:=HS.out;have h2:=HN.out;rw[Zja] at h2;rw[ZkU,h2] at h1;exact h1);clear hlen
    go_wp2
    go_meet
    exact⟨by rw[<-HT.out],rfl⟩
 case rest=>
 obtain⟨rfl,rfl⟩:=hcut
 have hsl:s.length<=1000000000:=by omega
 clear hl ha HS HN
 go_wp2
 go_loop [6] (fun i=>∃k:Nat,k<=s.length/\i=.int .i64 k/\Hid ((s.take k).all Qr=true)) (fun i=>s.length-(intOf i).toNat)
 case atStart=>exact⟨0,Nat.zero_le _,rfl,by show _=_;rfl⟩
 case round=>
  obtain⟨k,hk,rfl,HA⟩:=hrel
  by_cases hlt:k<s.length
  ·obtain⟨b,hb⟩:∃b,s[k]?=some b:=⟨_,List.getElem?_eq_getElem hlt⟩
   have hks:k<(⟨s.toArray⟩:ByteArray).size:=by rw[Qm];exact hlt
   have hbk:(⟨s.toArray⟩:ByteArray)[k]=b:=YX hb hks;have HB:=jq hb;clear hb
   by_cases hd:Qr b=true
   ·have HST:=jq (ZcN HB.out HA.out hd);obtain⟨h1,h2⟩:=(QE b).1 hd
    clear hd
    go_wp2
    all_goals first
     |(go_round
       case rel=>exact⟨k+1,by omega,by go_num,HST⟩
       case measure=>simp[intOf];omega)
     |(exfalso;omega)
   ·have HF:=jq (Zif HB.out hd)
    have hnd:b.toNat<48\/57<b.toNat:=by
     rw[QE] at hd;omega
    clear hd
    rcases hnd with hnd|hnd
    all_goals
     go_wp2
     go_ret2
     rw[HDG.out,HF.out];exact⟨rfl,rfl⟩
  ·have HALL:=jq (show s.all Qr=true by have:=HA.out;rwa [List.take_of_length_le (by omega)] at this);rw[HALL.out] at HDG;simp only[if_true] at HDG
   go_wp2
   go_loop [4] (fun v=>∃t:List UInt8,v=.string ⟨t.toArray⟩/\t.length<=1000000000/\Hid (s.dropWhile (·==48)=t.dropWhile (·==48))) (fun v=>match v with| .string b=>b.size|_=>0)
   case atStart=>exact⟨s,rfl,hsl,by show _=_;rfl⟩
   case round=>
    obtain⟨t,rfl,htl,HD⟩:=hrel
    cases t with
    |nil=>
     cases neg<;>(
      go_wp2
      go_ret2
      rw[HDG.out,HD.out];exact⟨rfl,rfl⟩)
    |cons b t=>
     have hlen:(⟨(b::t).toArray⟩:ByteArray).size=t.length+1:=by rw[Qm];rfl
     have h0:0<(⟨(b::t).toArray⟩:ByteArray).size:=by rw[Qm];simp
     have hb:(⟨(b::t).toArray⟩:ByteArray)[0]=b:=YX rfl h0;have HU:=jq (show((b.toNat:Int)==48)=(b==48) from ZkV b 48 (by omega))
     cases hz:(b==48) with
     |true=>
      rw[hz] at HU;have hu:=HU.out;have HD2:=jq (show s.dropWhile (·==48)=t.dropWhile (·==48) by rw[HD.out,List.dropWhile_cons,hz];rfl);have HTM:=jq (Zie b t (t.length+1) rfl);clear hz
      go_wp2
      go_round
      case rel=>exact⟨t,by rw[HTM.out],by simp at htl;omega,HD2⟩
      case measure=>rw[HTM.out];show(⟨t.toArray⟩:ByteArray).size<(⟨(b::t).toArray⟩:ByteArray).size;rw[Qm,Qm];simp
     |false=>
      rw[hz] at HU;have hu:=HU.out;have HD2:=jq (show s.dropWhile (·==48)=b::t by rw[HD.out,List.dropWhile_cons,hz];rfl);have hte3:(!(⟨(b::t).toArray⟩:ByteArray).toList.isEmpty)=true:=by rw[Lib.toList_data];rfl
      clear hz
      cases neg<;>(
       go_wp2
       go_ret2
       rw[HDG.out,HD2.out];exact⟨rfl,rfl⟩)
theorem ZmJ(a:List UInt8):Ql (Qi a).1=(val a).natAbs:=by
 unfold val
 split<;>omega
theorem Yg(a:List UInt8)(w:World)(ha:a.length<=1000000000):Calls Tryz.prog 98 #[S a] w fun e w'=>e=.returned (S (Qa (val a)))/\w=w':=by
 have H:=jq (Xg a w ha);have hl:=Xl a;have HC:=jq (show Qa (val a)=if(Qi a).2 then 45::(Qi a).1 else(Qi a).1 by rw[<-Zbr];rfl);have hl2:(Qi a).1.length<=1000000000:=by omega
 clear hl ha;generalize Qa (val a)=res at*;generalize (Qi a).1=t at*;generalize (Qi a).2=neg at*;unfold S at*
 cases neg with
 |true=>
  have hsz:(⟨t.toArray⟩:ByteArray).size<=1000000000:=by rw[Qm];exact hl2
  go_enter Tryz.func98,Tryz.ntmps98
  go_wp2_with (go_at_call 100;refine H.out.mono ?_;rintro e w1 ⟨rfl,rfl⟩)
  go_ret
  rw[HC.out];exact⟨congrArg (fun b=>Ending.returned (.string b)) (ByteArray.mk_append_mk [45] t),rfl⟩
 |false=>
  go_enter Tryz.func98,Tryz.ntmps98
  go_wp2_with (go_at_call 100;refine H.out.mono ?_;rintro e w1 ⟨rfl,rfl⟩)
  go_ret
  rw[HC.out];exact⟨by simp,rfl⟩
theorem Zbe(a:List UInt8)(w:World)(ha:a.length<=1000000000):Calls Tryz.prog 130 #[S a] w fun e w'=>e=.returned (S (Qa (-val a)))/\w=w':=by
 have H:=jq (Xg a w ha);have hl:=Xl a;have hl2:(Qi a).1.length<=1000000000:=by omega
 have HD:=jq (Zfm a);have HN:=jq (Zca a)
 have HC:=jq (show Qa (-val a)=if(Qi a).2||((Qi a).1==[]) then(Qi a).1 else 45::(Qi a).1 by
  rw[Yp,Int.natAbs_neg,<-HD.out,HN.out]
  by_cases h1:val a<0
  ·rw[if_neg (by omega)];simp[h1]
  ·by_cases h0:val a=0
   ·have:(Qi a).1=[]:=by rw[HD.out,h0];rfl
    rw[this];simp[h0]
   ·have:(Qi a).1≠[]:=fun h=>by
     have h2:=ZmJ a;rw[h] at h2;simp[Ql] at h2
     omega
    rw[if_pos (by omega)];simp[h1,this])
 clear hl ha HD HN;generalize Qa (-val a)=res at*;generalize (Qi a).1=t at*;generalize (Qi a).2=neg at*;unfold S at*
 have hsz:(⟨t.toArray⟩:ByteArray).size<=1000000000:=by rw[Qm];exact hl2
 cases neg with
 |true=>
  go_enter Tryz.func130,Tryz.ntmps130
  go_wp2_with (go_at_call 100;refine H.out.mono ?_;rintro e w1 ⟨rfl,rfl⟩)
  go_ret
  rw[HC.out];exact⟨by simp,rfl⟩
 |false=>
  cases ht:(t==[]) with
  |true=>
   rw[ht] at HC;obtain rfl:t=[]:=eq_of_beq ht;clear ht;go_enter Tryz.func130,Tryz.ntmps130
   go_wp2_with (go_at_call 100;refine H.out.mono ?_;rintro e w1 ⟨rfl,rfl⟩)
   go_ret
   rw[HC.out];exact⟨by simp,rfl⟩
  |false=>
   rw[ht] at HC
   have hte:t.isEmpty=false:=by cases t with|nil=>simp at ht|cons _ _=>rfl
   have hte2:(⟨t.toArray⟩:ByteArray).toList.isEmpty=false:=by rw[Lib.toList_data];simpa using hte
   go_enter Tryz.func130,Tryz.ntmps130
   go_wp2_with (go_at_call 100;refine H.out.mono ?_;rintro e w1 ⟨rfl,rfl⟩)
   go_ret
   rw[HC.out];exact⟨congrArg (fun b=>Ending.returned (.string b)) (ByteArray.mk_append_mk [45] t),rfl⟩
def QF(a:List UInt8):Int×Bool:=if(Qi a).1.length<=17 then(val a,true) else(0,false)
theorem ZdX{s:List UInt8}{k:Nat}{b:UInt8}(h:s[k]?=some b):Ql (s.take (k+1))=10*Ql (s.take k)+(b.toNat-48):=by
 obtain⟨hk,rfl⟩:=List.getElem?_eq_some_iff.1 h
 rw[List.take_succ_eq_append_getElem hk,Vd]
theorem Zbf{s:List UInt8}(hd:s.all Qr=true)(k:Nat)(hk:k<=17):Ql (s.take k)<100000000000000000:=by
 have h:(s.take k).all Qr=true:=by
  rw[List.all_eq_true] at hd ⊢;exact fun x hx=>hd x (List.mem_of_mem_take hx)
 have h1:=XC h;have h2:10^(s.take k).length<=10^17:=Nat.pow_le_pow_right (by omega) (by rw[List.length_take];omega);omega
theorem Xj(a:List UInt8)(w:World)(ha:a.length<=1000000000):Calls Tryz.prog 70 #[S a] w fun e w'=>e=.returned (.tuple #[.int .i64 (QF a).1,.bool (QF a).2])/\w=w':=by
 have H:=jq (Xg a w ha);have hl:=Xl a;have HSH:=jq (show QF a=if(Qi a).1.length<=17 then((if(Qi a).2 then-(Ql (Qi a).1:Int) else Ql (Qi a).1),true) else(0,false) from rfl);have HDG:=jq (XD a).1;have hl2:(Qi a).1.length<=1000000000:=by omega
 clear hl ha;generalize QF a=res at*;generalize (Qi a).1=s at*;generalize (Qi a).2=neg at*;unfold S at*
 by_cases h17:s.length<=17
 ·rw[if_pos h17] at HSH;clear hl2;go_enter Tryz.func70,Tryz.ntmps70
  go_wp2_with (go_at_call 100;refine H.out.mono ?_;rintro e w1 ⟨rfl,rfl⟩)
  go_loop [6,7] (fun n i=>∃(k m:Nat),k<=s.length/\i=.int .i64 k/\n=.int .i64 m/\m<100000000000000000/\Hid (m=Ql (s.take k))) (fun _ i=>s.length-(intOf i).toNat)
  case atStart=>exact⟨0,0,Nat.zero_le _,rfl,rfl,by omega,by show _=_;rfl⟩
  case round=>
   obtain⟨k,m,hk,rfl,rfl,hm,HM⟩:=hrel
   by_cases hlt:k<s.length
   ·obtain⟨b,hb⟩:∃b,s[k]?=some b:=⟨_,List.getElem?_eq_getElem hlt⟩
    have hks:k<(⟨s.toArray⟩:ByteArray).size:=by rw[Qm];exact hlt
    have hbk:(⟨s.toArray⟩:ByteArray)[k]=b:=YX hb hks;have hdb:=(QE b).1 (by have:=HDG.out;rw[List.all_eq_true] at this;exact this b (List.mem_of_getElem? hb));obtain⟨h1,h2⟩:=hdb
    have HST:=jq (ZdX hb);have hm2:=Zbf HDG.out (k+1) (by omega);rw[HST.out,<-HM.out] at hm2;clear hb
    go_wp2
    go_round
    case rel=>exact⟨k+1,10*m+(b.toNat-48),by omega,by go_num,by rw[show((10*m+(b.toNat-48):Nat):Int)=10*(m:Int)+((b.toNat:Int)-48) by omega],hm2,by show _=_;rw[HST.out,<-HM.out]⟩
    case measure=>simp[intOf];omega
   ·have HV:=jq (show m=Ql s by have:=HM.out;rwa [List.take_of_length_le (by omega)] at this)
    cases neg with
    |true=>
     go_wp2
     go_ret2
     rw[HSH.out,<-HV.out];exact⟨by simp,rfl⟩
    |false=>
     go_wp2
     go_ret2
     rw[HSH.out,<-HV.out];exact⟨by simp,rfl⟩
 ·rw[if_neg h17] at HSH;go_enter Tryz.func70,Tryz.ntmps70
  go_wp2_with (go_at_call 100;refine H.out.mono ?_;rintro e w1 ⟨rfl,rfl⟩)
  go_ret2
  rw[HSH.out];exact⟨rfl,rfl⟩
end
section
def ZoG(N:Nat)(s m:Value):Prop:=∃(k:Nat) (t:List UInt8),m=.int .i64 k/\(k:Int)<=9223372036854775807/\s=.string ⟨t.toArray⟩/\QS N=QS k++t
theorem ZmL(n:Int)(h0:0<n)(h1:n<=9223372036854775807)(w:World):
 Calls Tryz.prog 71 #[.int .i64 n] w fun e w'=>e=.returned (S (Qa n))/\w=w':=by
 have hne:(n==0)=false:=by simp;omega
 have HT:=jq (show Qa n=QS n.natAbs by unfold Qa QS;rw[if_neg (by omega),if_neg (by omega),if_neg (by omega)]);have HL:=jq (Zfj n.natAbs (by omega));have hnn:n=(n.natAbs:Int):=by omega
 generalize n.natAbs=N at*;have HNN:=jq hnn;clear hnn;go_enter Tryz.func71,Tryz.ntmps71
 go_wp2
 go_loop [3,4,5] (fun s m _=>ZoG N s m) (fun _ m _=>(intOf m).toNat)
 case atStart=>exact⟨N,[],by rw[HNN.out],by rw[<-HNN.out];omega,rfl,by simp⟩
 case round=>
  obtain⟨k,t,rfl,hk,rfl,hd⟩:=hrel
  have HD:=jq hd;clear hd
  by_cases hk0:k=0
  ·subst hk0
   go_wp2
   go_ret
   refine⟨?_,rfl⟩;rw[HT.out,HD.out];rfl
  ·have hkb:((k:Int) !=0)=true:=by simp;omega
   have HS:=jq (Xx k hk0);have htl:t.length<=19:=by have h1:=HL.out;rw[HD.out,List.length_append] at h1;omega
   go_wp2
   all_goals first
    |(exfalso
      have:=YY k
      omega)
    |(go_round
      case rel=>
       refine⟨k/10,UInt8.ofNat (48+k%10)::t,by go_num,by omega,?_,?_⟩
       ·rw[Za0];exact congrArg Value.string (VS [UInt8.ofNat (48+k%10)] t)
       ·rw[HD.out,HS.out,List.append_assoc];rfl
      case measure=>simp[intOf];omega)
end
section
theorem Zf4(n:Int)(h0: -9223372036854775808<=n)(h1:n<=9223372036854775807)(w:World)(hp:Pow w):
 Calls Tryz.prog 179 #[.int .i64 n] w fun e w'=>e=.returned (S (Lib.itoa n))/\Below w.1.size w w':=by
 refine(Tryz.strconv_Itoa n h0 h1 w hp).mono ?_;rintro e w' ⟨rfl,k,os,rfl⟩;exact⟨rfl,Lib.below_grow _ w (Nat.le_refl _) k os⟩
end
end Go.Proofs.YtkddgeclncafoaaGreatDoor
