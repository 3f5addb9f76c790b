/- N1, Tb, Dg, N1b, Tbo. -/
import Derived.Test.YtokjnjdbnabchaaGreatDoorQGEp37
import Derived.Test.YtokjnjdbnabchaaGreatDoorShelf
import Derived.Shelf.Strings.SlTrimAscii
import Derived.Lib.ItoaNum
import Derived.Lib.LaidTab
import Derived.Lib.AppendIntMem
set_option maxHeartbeats 400000
namespace Go.Proofs.YtokjnjdbnabchaaGreatDoor
open Go.Lib renaming hid→jq
open Go.RowKit Go.Shelf
section
def S(l:List UInt8):Value:=.string ⟨l.toArray⟩
def Qx(b:UInt8):Bool:=48<=b&&b<=57
def Qf(a:List UInt8):List UInt8×Bool:=
 let s:=Lib.trimPrefix a [45]
 if s.all Qx then(s.dropWhile (·==48),Lib.hasPrefix a [45]&& !(s.dropWhile (·==48)).isEmpty) else([],false)
def Zbl(a:List UInt8):List UInt8:=if(Qf a).2 then 45::(Qf a).1 else(Qf a).1
def Vj:List UInt8:=[48,49,50,51,52,53,54,55,56,57]
theorem Js(b:UInt8):Vj.contains b=Qx b:=by
 have h:∀n:Fin 256,Vj.contains (UInt8.ofNat n.val)=Qx (UInt8.ofNat n.val):=by decide+kernel
 have:=h ⟨b.toNat,b.toNat_lt⟩
 simpa using this
theorem XV{α:Type}(p:α->Bool)(l:List α):l.dropWhile p=[]↔l.all p=true:=by
 induction l with
 |nil=>simp
 |cons a l ih=>
  rw[List.dropWhile_cons]
  cases h:p a<;>simp[h] at ih ⊢
  exact ih
theorem Yu{α:Type}(p:α->Bool)(l:List α)(h:l.dropWhile p≠[]):p ((l.dropWhile p).head h)=false:=by
 induction l with
 |nil=>simp at h
 |cons a l ih=>
  cases hp:p a with
  |true=>
   have e:(a::l).dropWhile p=l.dropWhile p:=by rw[List.dropWhile_cons,hp];rfl
   simp only[e] at h ⊢;exact ih h
  |false=>
   have e:(a::l).dropWhile p=a::l:=by rw[List.dropWhile_cons,hp];rfl
   simp only[e,List.head_cons];exact hp
theorem ZaK(s:List UInt8):(Lib.trimS s Vj=[])↔s.all Qx=true:=by
 have hc:(fun x=>Vj.contains x)=Qx:=funext Js;unfold Lib.trimS Lib.trimLeftS Lib.trimRightS;rw[hc,XV]
 constructor
 ·intro h
  by_cases hn:s.reverse.dropWhile Qx=[]
  ·rw[XV] at hn;simpa using hn
  ·have h1:=Yu Qx s.reverse hn;rw[List.all_reverse,List.all_eq_true] at h;rw[h _ (List.head_mem hn)] at h1
   cases h1
 ·intro h;have:s.reverse.dropWhile Qx=[]:=by rw[XV];simpa using h
  rw[this];rfl
theorem Qw(l:List UInt8):(⟨l.toArray⟩:ByteArray).size=l.length:=by simp[ByteArray.size]
theorem Ze3(s:List UInt8)(w:World)(hs:s.length<=1000000000):
 Calls Tryz.prog 160 #[S s,.string ⟨#[48,49,50,51,52,53,54,55,56,57]⟩] w fun e w'=>e=.returned (S (Lib.trimS s Vj))/\Below w.1.size w w':=by
 by_cases h0:s.length=0
 ·refine(Any.strings_Trim_empty Tryz.lays160 ⟨s.toArray⟩ _ w (.inl (by rw[Qw];exact h0))).mono ?_;rintro e w' ⟨rfl,rfl⟩;obtain rfl:s=[]:=List.eq_nil_of_length_eq_zero h0;exact⟨rfl,Below.refl _ _⟩
 ·refine(Any.strings_Trim_set Tryz.lays160 (fun _=>by kernel_rfl) (by kernel_rfl) ⟨s.toArray⟩ ⟨#[48,49,50,51,52,53,54,55,56,57]⟩ w (by decide) (by rw[Qw];omega) (by rw[Qw];omega) (by decide) (fun j b hb=> ?_)).mono ?_
  ·have h1:∀b∈([48,49,50,51,52,53,54,55,56,57]:List UInt8),b.toNat<128:=by decide
   exact h1 b (List.mem_of_getElem? hb)
  ·rintro e w' ⟨rfl,q,rfl⟩;exact⟨rfl,bdN (((Below.refl _ w).alloc (Nat.le_refl _) _).alloc (by simp) _) q⟩
theorem Yv(a p:List UInt8):(Lib.trimPrefix a p).length<=a.length:=by
 unfold Lib.trimPrefix
 split
 ·rw[List.length_drop];omega
 ·omega
theorem Ze4(l:List UInt8):(⟨l.toArray⟩:ByteArray).data.toList=l:=by simp
theorem JI(a:List UInt8)(w:World)(ha:a.length<=1000000000):
 Calls Tryz.prog 110 #[S a] w fun e w'=>e=.returned (.tuple #[S (Qf a).1,.bool (Qf a).2])/\Below w.1.size w w':=by
 have HC:=jq (show ∀W,Calls Tryz.prog 159 #[.string ⟨a.toArray⟩,.string ⟨#[45]⟩] W fun e w'=>e=.returned (.tuple #[.string ⟨(Lib.trimPrefix a [45]).toArray⟩,.bool (Lib.hasPrefix a [45])])/\w'=W from fun W=>Tryz.strings_CutPrefix ⟨a.toArray⟩ ⟨#[45]⟩ W);have hl:=Yv a [45];have HDG:=jq (show Qf a=if(Lib.trimPrefix a [45]).all Qx then((Lib.trimPrefix a [45]).dropWhile (·==48),Lib.hasPrefix a [45]&& !((Lib.trimPrefix a [45]).dropWhile (·==48)).isEmpty) else([],false) from rfl);generalize Lib.trimPrefix a [45]=s at*;generalize Lib.hasPrefix a [45]=neg at*;have HT:=jq (show ∀W,Calls Tryz.prog 161 #[.string ⟨s.toArray⟩,.string ⟨#[48]⟩] W fun e w'=>e=.returned (.string ⟨(s.dropWhile (·==48)).toArray⟩)/\w'=W from fun W=>Tryz.strings_TrimLeft_one ⟨s.toArray⟩ 48 (by decide) W);have HM:=jq (fun W=>Ze3 s W (by omega));unfold S at*
 cases hall:s.all Qx with
 |true=>
  rw[hall] at HDG;simp only[if_true] at HDG;have hn:=(ZaK s).2 hall;rw[hn] at HM;clear hall hn;generalize s.dropWhile (·==48)=t at*
  by_cases htn:t=[]
  ·subst htn
   cases neg<;>(
    go_enter Tryz.func110,Tryz.ntmps110
    go_wp2_with (first
     |(go_at_call 159;refine(HC.out _).mono ?_;rintro e w1 ⟨rfl,rfl⟩)
     |(go_at_call 160;refine(HM.out _).mono ?_;rintro e w2 ⟨rfl,hb2⟩)
     |(go_at_call 161;refine(HT.out _).mono ?_;rintro e w3 ⟨rfl,rfl⟩))
    go_ret2
    rw[HDG.out];exact⟨rfl,hb2⟩)
  ·have hte:t.isEmpty=false:=by cases t with|nil=>exact absurd rfl htn|cons _ _=>rfl
   have hte2:(⟨t.toArray⟩:ByteArray).toList.isEmpty=false:=by rw[Lib.toList_data];simpa using hte
   have hte3:(!(⟨t.toArray⟩:ByteArray).toList.isEmpty)=true:=by rw[hte2];rfl
   cases neg<;>(
    go_enter Tryz.func110,Tryz.ntmps110
    go_wp2_with (first
     |(go_at_call 159;refine(HC.out _).mono ?_;rintro e w1 ⟨rfl,rfl⟩)
     |(go_at_call 160;refine(HM.out _).mono ?_;rintro e w2 ⟨rfl,hb2⟩)
     |(go_at_call 161;refine(HT.out _).mono ?_;rintro e w3 ⟨rfl,rfl⟩))
    go_ret2
    rw[HDG.out,hte];exact⟨rfl,hb2⟩)
 |false=>
  rw[hall] at HDG;simp only[Bool.false_eq_true,if_false] at HDG
  have hn:Lib.trimS s Vj≠[]:=fun h=>by rw[(ZaK s).1 h] at hall;cases hall
  clear hall;generalize Lib.trimS s Vj=t at*
  have hte:t.isEmpty=false:=by cases t with|nil=>exact absurd rfl hn|cons _ _=>rfl
  have hte2:(⟨t.toArray⟩:ByteArray).toList.isEmpty=false:=by rw[Lib.toList_data];simpa using hte
  have hte3:(!(⟨t.toArray⟩:ByteArray).toList.isEmpty)=true:=by rw[hte2];rfl
  go_enter Tryz.func110,Tryz.ntmps110
  go_wp2_with (first
   |(go_at_call 159;refine(HC.out _).mono ?_;rintro e w1 ⟨rfl,rfl⟩)
   |(go_at_call 160;refine(HM.out _).mono ?_;rintro e w2 ⟨rfl,hb2⟩))
  go_ret2
  rw[HDG.out];exact⟨rfl,hb2⟩
theorem Zav{α:Type}(p:α->Bool)(l:List α):(l.dropWhile p).length<=l.length:=by
 induction l with
 |nil=>simp
 |cons a l ih=>
  rw[List.dropWhile_cons]
  split
  ·rw[List.length_cons];omega
  ·exact Nat.le_refl _
theorem Vv(a:List UInt8):(Qf a).1.length<=a.length:=by
 unfold Qf;simp only
 split
 ·exact Nat.le_trans (Zav _ _) (Yv a [45])
 ·simp
end
section
def Pow(w:World):Prop:=Lib.TabIs Tryz.prog w "internal/strconv.uint64pow10" .u64 Lib.pow10Tab
theorem Pow.here{w w':World}(h:Pow w)(hb:Below w.1.size w w'):Pow w':=Lib.tabBelow_of_tabIs h w' hb
end
section
def Qb(n:Int):List UInt8:=if n=0 then[] else if n<0 then 45::Lib.decDigits n.natAbs else Lib.decDigits n.natAbs
def QD(m:Nat):List UInt8:=if m=0 then[] else Lib.decDigits m
theorem Xi(m:Nat)(h:m≠0):QD m=QD (m/10)++[UInt8.ofNat (48+m%10)]:=by
 unfold QD;rw[if_neg h,Lib.decDigits]
 split
 ·rename_i hlt
  rw[if_pos (by omega),show m%10=m by omega];rfl
 ·rename_i hlt
  rw[if_neg (by omega)]
theorem Ze5(m:Nat)(h:m≠0):1<=(QD m).length:=by rw[Xi m h,List.length_append];simp
theorem Zei(a b:List UInt8):(⟨a.toArray⟩:ByteArray)++⟨b.toArray⟩=⟨(a++b).toArray⟩:=ByteArray.mk_append_mk a b
theorem Zej(d:Nat)(h:d<10):Qx (UInt8.ofNat (48+d))=true:=by
 have:∀d:Fin 10,Qx (UInt8.ofNat (48+d.val))=true:=by decide+kernel
 exact this ⟨d,h⟩
theorem JJ(m:Nat):(QD m).all Qx=true:=by
 induction m using Nat.strongRecOn with
 |_ m ih=>
  by_cases h:m=0
  ·subst h;rfl
  ·rw[Xi m h,List.all_append,ih (m/10) (by omega)];simp only[List.all_cons,List.all_nil,Bool.and_true,Bool.true_and];exact Zej (m%10) (by omega)
theorem VH(m:Nat)(h:m≠0):∃b l,QD m=b::l/\(b==48)=false/\(b==45)=false:=by
 induction m using Nat.strongRecOn with
 |_ m ih=>
  rw[Xi m h]
  by_cases h10:m/10=0
  ·rw[h10];refine⟨UInt8.ofNat (48+m%10),[],rfl,?_,?_⟩
   ·have:∀d:Fin 10,d.val≠0->(UInt8.ofNat (48+d.val)==48)=false:=by decide+kernel
    exact this ⟨m%10,by omega⟩ (by simp only;omega)
   ·have:∀d:Fin 10,(UInt8.ofNat (48+d.val)==45)=false:=by decide+kernel
    exact this ⟨m%10,by omega⟩
  ·obtain⟨b,l,e,h1,h2⟩:=ih (m/10) (by omega) h10
   rw[e];exact⟨b,l++[UInt8.ofNat (48+m%10)],rfl,h1,h2⟩
theorem Zc3(m:Nat)(h:m≠0):Qf (QD m)=(QD m,false):=by
 obtain⟨b,l,e,h1,h2⟩:=VH m h
 have hall:=JJ m
 have hp:Lib.hasPrefix (QD m) [45]=false:=by
  rw[e];unfold Lib.hasPrefix
  have h3:(45==b)=false:=by
   rw[Bool.eq_false_iff] at h2 ⊢;intro hh;apply h2;simp at hh ⊢; exact hh.symm
  simp[List.isPrefixOf,h3]
 have ht:Lib.trimPrefix (QD m) [45]=QD m:=by unfold Lib.trimPrefix;rw[hp];rfl
 unfold Qf;simp only[ht,hall,hp,if_true,Bool.false_and];rw[e,List.dropWhile_cons,h1];rfl
theorem Ze6(m:Nat):Qb (m:Int)=QD m:=by
 unfold Qb QD
 by_cases h:m=0
 ·subst h;rfl
 ·rw[if_neg (by omega),if_neg (by omega),if_neg h];simp
end
section
theorem ZaF(a:List UInt8)(w:World)(ha:a.length<=1000000000):
 Calls Tryz.prog 64 #[S a] w fun e w'=>e=.returned (S (Zbl a))/\Below w.1.size w w':=by
 have H:=jq (JI a w ha);have HC:=jq (show Zbl a=if(Qf a).2 then 45::(Qf a).1 else(Qf a).1 from rfl);have hl:=Vv a;have hl2:(Qf a).1.length<=1000000000:=by omega
 clear hl;generalize (Qf a).1=t at*;generalize (Qf a).2=neg at*;unfold S at*
 cases neg with
 |true=>
  have hsz:(⟨t.toArray⟩:ByteArray).size<=1000000000:=by rw[Qw];exact hl2
  go_enter Tryz.func64,Tryz.ntmps64
  go_wp2_with (go_at_call 110;refine H.out.mono ?_;rintro e w1 ⟨rfl,hb1⟩)
  go_ret
  rw[HC.out];exact⟨congrArg (fun b=>Ending.returned (.string b)) (ByteArray.mk_append_mk [45] t),hb1⟩
 |false=>
  go_enter Tryz.func64,Tryz.ntmps64
  go_wp2_with (go_at_call 110;refine H.out.mono ?_;rintro e w1 ⟨rfl,hb1⟩)
  go_ret
  rw[HC.out];exact⟨by simp,hb1⟩
end
section
theorem ZfS(n:Int)(h0: -9223372036854775808<=n)(h1:n<=9223372036854775807)(w:World)(hp:Pow w):
 Calls Tryz.prog 65 #[.int .i64 n] w fun e w'=>e=.returned (S (Lib.itoa n))/\Below w.1.size w w':=by
 refine(Tryz.strconv_Itoa n h0 h1 w hp).mono ?_;rintro e w' ⟨rfl,k,os,rfl⟩;exact⟨rfl,Lib.below_grow _ w (Nat.le_refl _) k os⟩
end
end Go.Proofs.YtokjnjdbnabchaaGreatDoor
