/- N1, Tb, Dg, M1, FR, Lp0, D0, Dv, N1b, Tbo. -/
import Derived.Test.YtlhmkgmojgnaaaaGreatDoorQGX31
import Derived.Test.YtlhmkgmojgnaaaaGreatDoorShelf
import Derived.Shelf.Strings.SlTrimAscii
import Derived.Lib.ItoaNum
import Derived.Lib.LaidTab
import Derived.Lib.AppendIntMem
set_option maxHeartbeats 400000
namespace Go.Proofs.YtlhmkgmojgnaaaaGreatDoor
open Go.Lib renaming hid→jq
section
open Go.RowKit Go.Shelf
def S(l:List UInt8):Value:=.string ⟨l.toArray⟩
def Qw(b:UInt8):Bool:=48<=b&&b<=57
def Qi(a:List UInt8):List UInt8×Bool:=
 let s:=Lib.trimPrefix a [45]
 if s.all Qw then(s.dropWhile (·==48),Lib.hasPrefix a [45]&& !(s.dropWhile (·==48)).isEmpty) else([],false)
def Ym(a:List UInt8):List UInt8:=if(Qi a).2 then 45::(Qi a).1 else(Qi a).1
def VH:List UInt8:=[48,49,50,51,52,53,54,55,56,57]
theorem JY(b:UInt8):VH.contains b=Qw b:=by
 have h:∀n:Fin 256,VH.contains (UInt8.ofNat n.val)=Qw (UInt8.ofNat n.val):=by decide+kernel
 have:=h ⟨b.toNat,b.toNat_lt⟩
 simpa using this
theorem Yn{α:Type}(p:α->Bool)(l:List α):l.dropWhile p=[]↔l.all p=true:=by
 induction l with
 |nil=>simp
 |cons a l ih=>
  rw[List.dropWhile_cons]
  cases h:p a<;>simp[h] at ih ⊢
  exact ih
theorem YT{α:Type}(p:α->Bool)(l:List α)(h:l.dropWhile p≠[]):p ((l.dropWhile p).head h)=false:=by
 induction l with
 |nil=>simp at h
 |cons a l ih=>
  cases hp:p a with
  |true=>
   have e:(a::l).dropWhile p=l.dropWhile p:=by rw[List.dropWhile_cons,hp];rfl
   simp only[e] at h ⊢;exact ih h
  |false=>
   have e:(a::l).dropWhile p=a::l:=by rw[List.dropWhile_cons,hp];rfl
   simp only[e,List.head_cons];exact hp
theorem Zbp(s:List UInt8):(Lib.trimS s VH=[])↔s.all Qw=true:=by
 have hc:(fun x=>VH.contains x)=Qw:=funext JY;unfold Lib.trimS Lib.trimLeftS Lib.trimRightS;rw[hc,Yn]
 constructor
 ·intro h
  by_cases hn:s.reverse.dropWhile Qw=[]
  ·rw[Yn] at hn;simpa using hn
  ·have h1:=YT Qw s.reverse hn;rw[List.all_reverse,List.all_eq_true] at h;rw[h _ (List.head_mem hn)] at h1
   cases h1
 ·intro h;have:s.reverse.dropWhile Qw=[]:=by rw[Yn];simpa using h
  rw[this];rfl
theorem QB(l:List UInt8):(⟨l.toArray⟩:ByteArray).size=l.length:=by simp[ByteArray.size]
theorem ZfT(s:List UInt8)(w:World)(hs:s.length<=1000000000):
 Calls Tryz.prog 116 #[S s,.string ⟨#[48,49,50,51,52,53,54,55,56,57]⟩] w fun e w'=>e=.returned (S (Lib.trimS s VH))/\Below w.1.size w w':=by
 by_cases h0:s.length=0
 ·refine(Any.strings_Trim_empty Tryz.lays160 ⟨s.toArray⟩ _ w (.inl (by rw[QB];exact h0))).mono ?_;rintro e w' ⟨rfl,rfl⟩;obtain rfl:s=[]:=List.eq_nil_of_length_eq_zero h0;exact⟨rfl,Below.refl _ _⟩
 ·refine(Any.strings_Trim_set Tryz.lays160 (fun _=>by kernel_rfl) (by kernel_rfl) ⟨s.toArray⟩ ⟨#[48,49,50,51,52,53,54,55,56,57]⟩ w (by decide) (by rw[QB];omega) (by rw[QB];omega) (by decide) (fun j b hb=> ?_)).mono ?_
  ·have h1:∀b∈([48,49,50,51,52,53,54,55,56,57]:List UInt8),b.toNat<128:=by decide
   exact h1 b (List.mem_of_getElem? hb)
  ·rintro e w' ⟨rfl,q,rfl⟩;exact⟨rfl,bdN (((Below.refl _ w).alloc (Nat.le_refl _) _).alloc (by simp) _) q⟩
theorem YU(a p:List UInt8):(Lib.trimPrefix a p).length<=a.length:=by
 unfold Lib.trimPrefix
 split
 ·rw[List.length_drop];omega
 ·omega
theorem Zcy(l:List UInt8):(⟨l.toArray⟩:ByteArray).data.toList=l:=by simp
theorem Zap(a:List UInt8)(w:World)(ha:a.length<=1000000000):
 Calls Tryz.prog 82 #[S a] w fun e w'=>e=.returned (.tuple #[S (Qi a).1,.bool (Qi a).2])/\Below w.1.size w w':=by
 have HC:=jq (show ∀W,Calls Tryz.prog 115 #[.string ⟨a.toArray⟩,.string ⟨#[45]⟩] W fun e w'=>e=.returned (.tuple #[.string ⟨(Lib.trimPrefix a [45]).toArray⟩,.bool (Lib.hasPrefix a [45])])/\w'=W from fun W=>Tryz.strings_CutPrefix ⟨a.toArray⟩ ⟨#[45]⟩ W);have hl:=YU a [45];have HDG:=jq (show Qi a=if(Lib.trimPrefix a [45]).all Qw then((Lib.trimPrefix a [45]).dropWhile (·==48),Lib.hasPrefix a [45]&& !((Lib.trimPrefix a [45]).dropWhile (·==48)).isEmpty) else([],false) from rfl);generalize Lib.trimPrefix a [45]=s at*;generalize Lib.hasPrefix a [45]=neg at*;have HT:=jq (show ∀W,Calls Tryz.prog 117 #[.string ⟨s.toArray⟩,.string ⟨#[48]⟩] W fun e w'=>e=.returned (.string ⟨(s.dropWhile (·==48)).toArray⟩)/\w'=W from fun W=>Tryz.strings_TrimLeft_one ⟨s.toArray⟩ 48 (by decide) W);have HM:=jq (fun W=>ZfT s W (by omega));unfold S at*
 cases hall:s.all Qw with
 |true=>
  rw[hall] at HDG;simp only[if_true] at HDG;have hn:=(Zbp s).2 hall;rw[hn] at HM;clear hall hn;generalize s.dropWhile (·==48)=t at*
  by_cases htn:t=[]
  ·subst htn
   cases neg<;>(
    go_enter Tryz.func82,Tryz.ntmps82
    go_wp2_with (first
     |(go_at_call 115;refine(HC.out _).mono ?_;rintro e w1 ⟨rfl,rfl⟩)
     |(go_at_call 116;refine(HM.out _).mono ?_;rintro e w2 ⟨rfl,hb2⟩)
     |(go_at_call 117;refine(HT.out _).mono ?_;rintro e w3 ⟨rfl,rfl⟩))
    go_ret2
    rw[HDG.out];exact⟨rfl,hb2⟩)
  ·have hte:t.isEmpty=false:=by cases t with|nil=>exact absurd rfl htn|cons _ _=>rfl
   have hte2:(⟨t.toArray⟩:ByteArray).toList.isEmpty=false:=by rw[Lib.toList_data];simpa using hte
   have hte3:(!(⟨t.toArray⟩:ByteArray).toList.isEmpty)=true:=by rw[hte2];rfl
   cases neg<;>(
    go_enter Tryz.func82,Tryz.ntmps82
    go_wp2_with (first
     |(go_at_call 115;refine(HC.out _).mono ?_;rintro e w1 ⟨rfl,rfl⟩)
     |(go_at_call 116;refine(HM.out _).mono ?_;rintro e w2 ⟨rfl,hb2⟩)
     |(go_at_call 117;refine(HT.out _).mono ?_;rintro e w3 ⟨rfl,rfl⟩))
    go_ret2
    rw[HDG.out,hte];exact⟨rfl,hb2⟩)
 |false=>
  rw[hall] at HDG;simp only[Bool.false_eq_true,if_false] at HDG
  have hn:Lib.trimS s VH≠[]:=fun h=>by rw[(Zbp s).1 h] at hall;cases hall
  clear hall;generalize Lib.trimS s VH=t at*
  have hte:t.isEmpty=false:=by cases t with|nil=>exact absurd rfl hn|cons _ _=>rfl
  have hte2:(⟨t.toArray⟩:ByteArray).toList.isEmpty=false:=by rw[Lib.toList_data];simpa using hte
  have hte3:(!(⟨t.toArray⟩:ByteArray).toList.isEmpty)=true:=by rw[hte2];rfl
  go_enter Tryz.func82,Tryz.ntmps82
  go_wp2_with (first
   |(go_at_call 115;refine(HC.out _).mono ?_;rintro e w1 ⟨rfl,rfl⟩)
   |(go_at_call 116;refine(HM.out _).mono ?_;rintro e w2 ⟨rfl,hb2⟩))
  go_ret2
  rw[HDG.out];exact⟨rfl,hb2⟩
theorem Za9{α:Type}(p:α->Bool)(l:List α):(l.dropWhile p).length<=l.length:=by
 induction l with
 |nil=>simp
 |cons a l ih=>
  rw[List.dropWhile_cons]
  split
  ·rw[List.length_cons];omega
  ·exact Nat.le_refl _
theorem VS(a:List UInt8):(Qi a).1.length<=a.length:=by
 unfold Qi;simp only
 split
 ·exact Nat.le_trans (Za9 _ _) (YU a [45])
 ·simp
end
section
open Go.RowKit Go.Shelf
def Pow(w:World):Prop:=Lib.TabIs Tryz.prog w "internal/strconv.uint64pow10" .u64 Lib.pow10Tab
theorem Pow.here{w w':World}(h:Pow w)(hb:Below w.1.size w w'):Pow w':=Lib.tabBelow_of_tabIs h w' hb
end
section
open Go.RowKit Go.Shelf
def Qa(n:Int):List UInt8:=if n=0 then[] else if n<0 then 45::Lib.decDigits n.natAbs else Lib.decDigits n.natAbs
def QI(m:Nat):List UInt8:=if m=0 then[] else Lib.decDigits m
theorem Xq(m:Nat)(h:m≠0):QI m=QI (m/10)++[UInt8.ofNat (48+m%10)]:=by
 unfold QI;rw[if_neg h,Lib.decDigits]
 split
 ·rename_i hlt
  rw[if_pos (by omega),show m%10=m by omega];rfl
 ·rename_i hlt
  rw[if_neg (by omega)]
theorem ZcB(m:Nat)(h:m≠0):1<=(QI m).length:=by rw[Xq m h,List.length_append];simp
theorem ZeR(a b:List UInt8):(⟨a.toArray⟩:ByteArray)++⟨b.toArray⟩=⟨(a++b).toArray⟩:=ByteArray.mk_append_mk a b
theorem ZeS(d:Nat)(h:d<10):Qw (UInt8.ofNat (48+d))=true:=by
 have:∀d:Fin 10,Qw (UInt8.ofNat (48+d.val))=true:=by decide+kernel
 exact this ⟨d,h⟩
theorem VT(m:Nat):(QI m).all Qw=true:=by
 induction m using Nat.strongRecOn with
 |_ m ih=>
  by_cases h:m=0
  ·subst h;rfl
  ·rw[Xq m h,List.all_append,ih (m/10) (by omega)];simp only[List.all_cons,List.all_nil,Bool.and_true,Bool.true_and];exact ZeS (m%10) (by omega)
theorem Vp(m:Nat)(h:m≠0):∃b l,QI m=b::l/\(b==48)=false/\(b==45)=false:=by
 induction m using Nat.strongRecOn with
 |_ m ih=>
  rw[Xq m h]
  by_cases h10:m/10=0
  ·rw[h10];refine⟨UInt8.ofNat (48+m%10),[],rfl,?_,?_⟩
   ·have:∀d:Fin 10,d.val≠0->(UInt8.ofNat (48+d.val)==48)=false:=by decide+kernel
    exact this ⟨m%10,by omega⟩ (by simp only;omega)
   ·have:∀d:Fin 10,(UInt8.ofNat (48+d.val)==45)=false:=by decide+kernel
    exact this ⟨m%10,by omega⟩
  ·obtain⟨b,l,e,h1,h2⟩:=ih (m/10) (by omega) h10
   rw[e];exact⟨b,l++[UInt8.ofNat (48+m%10)],rfl,h1,h2⟩
theorem ZdE(m:Nat)(h:m≠0):Qi (QI m)=(QI m,false):=by
 obtain⟨b,l,e,h1,h2⟩:=Vp m h
 have hall:=VT m
 have hp:Lib.hasPrefix (QI m) [45]=false:=by
  rw[e];unfold Lib.hasPrefix
  have h3:(45==b)=false:=by
   rw[Bool.eq_false_iff] at h2 ⊢;intro hh;apply h2;simp at hh ⊢; exact hh.symm
  simp[List.isPrefixOf,h3]
 have ht:Lib.trimPrefix (QI m) [45]=QI m:=by unfold Lib.trimPrefix;rw[hp];rfl
 unfold Qi;simp only[ht,hall,hp,if_true,Bool.false_and];rw[e,List.dropWhile_cons,h1];rfl
theorem VU(m:Nat):Qa (m:Int)=QI m:=by
 unfold Qa QI
 by_cases h:m=0
 ·subst h;rfl
 ·rw[if_neg (by omega),if_neg (by omega),if_neg h];simp
end
section
open Go.RowKit Go.Shelf
def gv:List Nat->Nat
 |[]=>0
 |x::xs=>x+1000000000*gv xs
def Gs(xs:List Nat):Prop:=∀x∈xs,x<1000000000
def Nz(xs:List Nat):Prop:=xs.getLast?≠some 0
structure Mag (xs:List Nat) (v:Nat):Prop where
 gs:Gs xs
 nz:Nz xs
 val:gv xs=v
theorem Yv(xs ys:List Nat):gv (xs++ys)=gv xs+1000000000^xs.length*gv ys:=by
 induction xs with
 |nil=>simp[gv]
 |cons x xs ih=>
  rw[List.cons_append,gv,ih,gv,List.length_cons,Nat.pow_succ,Nat.mul_add,Nat.add_assoc,<-Nat.mul_assoc,Nat.mul_comm (1000000000^xs.length) 1000000000]
theorem Yd(xs:List Nat)(g:Nat):gv (xs++[g])=gv xs+1000000000^xs.length*g:=by rw[Yv];simp[gv]
theorem Gs.nil:Gs []:=fun x hx=>by cases hx
theorem Gs.snoc{xs:List Nat}{g:Nat}(h:Gs xs)(hg:g<1000000000):Gs (xs++[g]):=fun x hx=>by
 rcases List.mem_append.1 hx with h1|h1
 ·exact h x h1
 ·simp at h1;rw[h1];exact hg
theorem Gs.take{xs:List Nat}(h:Gs xs)(k:Nat):Gs (xs.take k):=fun x hx=>h x (List.mem_of_mem_take hx)
theorem Gs.at_{xs:List Nat}(h:Gs xs){i g:Nat}(hi:xs[i]?=some g):g<1000000000:=h g (List.mem_of_getElem? hi)
theorem Ye{xs:List Nat}(h:Gs xs):gv xs<1000000000^xs.length:=by
 induction xs with
 |nil=>simp[gv]
 |cons x xs ih=>
  have h1:=ih (fun y hy=>h y (by simp[hy]));have h2:=h x (by simp);rw[gv,List.length_cons,Nat.pow_succ];omega
theorem Jn{xs:List Nat}(hn:xs≠[])(h:Nz xs):1000000000^(xs.length-1)<=gv xs:=by
 obtain⟨ys,g,rfl⟩:∃ys g,xs=ys++[g]:=⟨xs.dropLast,xs.getLast hn,(List.dropLast_concat_getLast hn).symm⟩
 have hg:g≠0:=fun e=>h (by rw[e];simp)
 rw[Yd,List.length_append,List.length_singleton,Nat.add_sub_cancel];exact Nat.le_trans (Nat.le_mul_of_pos_right _ (by omega)) (Nat.le_add_left _ _)
theorem Yf(xs:List Nat)(i:Nat)(g:Nat)(h:xs[i]?=some g):gv (xs.take (i+1))=gv (xs.take i)+1000000000^i*g:=by
 obtain⟨hi,rfl⟩:=List.getElem?_eq_some_iff.1 h
 rw[List.take_succ_eq_append_getElem hi,Yd,List.length_take,Nat.min_eq_left (by omega)]
theorem Xe(xs:List Nat)(i:Nat)(g:Nat)(h:xs[i]?=some g):gv (xs.drop i)=g+1000000000*gv (xs.drop (i+1)):=by
 obtain⟨hi,rfl⟩:=List.getElem?_eq_some_iff.1 h
 rw[List.drop_eq_getElem_cons hi,gv]
theorem XB(xs:List Nat)(i:Nat)(hi:i<=xs.length):gv xs=gv (xs.take i)+1000000000^i*gv (xs.drop i):=by
 have:=Yv (xs.take i) (xs.drop i)
 rw[List.take_append_drop,List.length_take,Nat.min_eq_left hi] at this;exact this
theorem Mag.zero:Mag [] 0:=⟨Gs.nil,by unfold Nz;simp,rfl⟩
theorem Mag.nil_iff{xs:List Nat}{v:Nat}(h:Mag xs v):xs=[]↔v=0:=by
 constructor
 ·rintro rfl;exact h.val.symm
 ·intro hv
  by_cases hn:xs=[]
  ·exact hn
  ·have:=Jn hn h.nz
   rw[h.val,hv] at this;have:=Nat.pow_pos (n:=xs.length-1) (show 0<1000000000 by decide)
   omega
theorem Mag.len{xs:List Nat}{v k:Nat}(h:Mag xs v)(hv:v<1000000000^k):xs.length<=k:=by
 by_cases hn:xs=[]
 ·rw[hn];simp
 ·have h1:=Jn hn h.nz;rw[h.val] at h1;have h2:=Nat.lt_of_le_of_lt h1 hv;have:=(Nat.pow_lt_pow_iff_right (show 1<1000000000 by decide)).1 h2
  omega
theorem ZcC{α:Type}{P:List α->Prop}(h0:P [])(h1:∀l b,P l->P (l++[b]))(l:List α):P l:=by
 have:∀l:List α,P l.reverse:=by
  intro l
  induction l with
  |nil=>exact h0
  |cons a l ih=>rw[List.reverse_cons];exact h1 _ _ ih
 have h:=this l.reverse
 rwa [List.reverse_reverse] at h
def Qj(l:List UInt8):Nat:=l.foldl (fun n b=>10*n+(b.toNat-48)) 0
theorem VI(l:List UInt8)(n:Nat):l.foldl (fun n b=>10*n+(b.toNat-48)) n=n*10^l.length+Qj l:=by
 induction l generalizing n with
 |nil=>simp[Qj]
 |cons b l ih=>
  have e:Qj (b::l)=(10*0+(b.toNat-48))*10^l.length+Qj l:=by unfold Qj;rw[List.foldl_cons];exact ih _
  rw[List.foldl_cons,ih,e,List.length_cons,Nat.pow_succ,Nat.add_mul,Nat.mul_comm 10 n,Nat.mul_assoc,Nat.mul_comm 10 (10^l.length),Nat.mul_zero,Nat.zero_add,Nat.add_assoc]
theorem YV(l l':List UInt8):Qj (l++l')=Qj l*10^l'.length+Qj l':=by
 unfold Qj;rw[List.foldl_append,VI];rfl
theorem Jo(l:List UInt8)(b:UInt8):Qj (l++[b])=10*Qj l+(b.toNat-48):=by
 rw[YV,Nat.mul_comm];simp[Qj]
theorem Xf(b:UInt8):Qw b=true↔48<=b.toNat/\b.toNat<=57:=by
 unfold Qw;simp[UInt8.le_iff_toNat_le]
theorem VV{l:List UInt8}:l.all Qw=true->Qj l<10^l.length:=by
 refine ZcC (P:=fun l=>l.all Qw=true->Qj l<10^l.length) ?_ ?_ l
 ·intro _;simp[Qj]
 ·intro l b ih h;rw[List.all_append] at h;simp only[List.all_cons,List.all_nil,Bool.and_true,Bool.and_eq_true] at h;have h1:=ih h.1;have h2:=(Xf b).1 h.2;rw[Jo,List.length_append,List.length_singleton,Nat.pow_succ];omega
theorem ZfV(b:UInt8)(h:Qw b=true):UInt8.ofNat (48+(b.toNat-48))=b:=by
 have h2:=(Xf b).1 h;rw[show 48+(b.toNat-48)=b.toNat by omega];simp
theorem Vq{b:UInt8}{l:List UInt8}(h:(b::l).all Qw=true)(hb:(b==48)=false):Qj (b::l)≠0:=by
 have h1:Qw b=true:=by simp at h;exact h.1
 have h2:=(Xf b).1 h1
 have h3:b.toNat≠48:=fun e=>by
  have:b=48:=UInt8.toNat_inj.1 e
  rw[this] at hb;simp at hb
 unfold Qj;rw[List.foldl_cons,VI];have:=Nat.pow_pos (n:=l.length) (show 0<10 by decide)
 have:0<(10*0+(b.toNat-48))*10^l.length:=Nat.mul_pos (by omega) this
 omega
theorem Vr{l:List UInt8}:l.all Qw=true->(∀b t,l=b::t->(b==48)=false)->QI (Qj l)=l:=by
 refine ZcC (P:=fun l=>l.all Qw=true->(∀b t,l=b::t->(b==48)=false)->QI (Qj l)=l) ?_ ?_ l
 ·intro _ _;simp[Qj,QI]
 ·intro l b ih h hz;have h':=h;rw[List.all_append] at h;simp only[List.all_cons,List.all_nil,Bool.and_true,Bool.and_eq_true] at h;have h2:=(Xf b).1 h.2
  have hne:Qj (l++[b])≠0:=by
   cases l with
   |nil=>exact Vq h' (hz b [] rfl)
   |cons c t=>exact Vq h' (hz c (t++[b]) rfl)
  rw[Xq _ hne,Jo,show(10*Qj l+(b.toNat-48))/10=Qj l by omega,show(10*Qj l+(b.toNat-48))%10=b.toNat-48 by omega,ZfV b h.2,ih h.1 (fun c t e=>hz c (t++[b]) (by rw[e];rfl))]
theorem Jp(m:Nat):Qj (QI m)=m:=by
 induction m using Nat.strongRecOn with
 |_ m ih=>
  by_cases h:m=0
  ·subst h;rfl
  ·rw[Xq m h,Jo,ih (m/10) (by omega)];have:(UInt8.ofNat (48+m%10)).toNat=48+m%10:=by simp;omega
   omega
def val(a:List UInt8):Int:=if(Qi a).2 then-(Qj (Qi a).1:Int) else Qj (Qi a).1
theorem VW(a:List UInt8):(Qi a).1.all Qw=true/\(∀b t,(Qi a).1=b::t->(b==48)=false)/\((Qi a).2=true->(Qi a).1≠[]):=by
 unfold Qi;simp only
 split
 ·rename_i h
  refine⟨?_,?_,?_⟩
  ·rw[List.all_eq_true] at h ⊢;exact fun x hx=>h x ((List.dropWhile_sublist _).subset hx)
  ·intro b t e;have e':(Lib.trimPrefix a [45]).dropWhile (·==48)=b::t:=e;clear e;have e:=e';have hne:(Lib.trimPrefix a [45]).dropWhile (·==48)≠[]:=by rw[e];simp
   have:=YT (·==48) (Lib.trimPrefix a [45]) hne
   simp only[e,List.head_cons] at this;exact this
  ·intro hh;simp only[Bool.and_eq_true,Bool.not_eq_true'] at hh;intro e;have e':(Lib.trimPrefix a [45]).dropWhile (·==48)=[]:=e;rw[e'] at hh;simp at hh
 ·simp
theorem ZfW(a:List UInt8):(Qi a).1=QI (val a).natAbs:=by
 obtain⟨h1,h2,_⟩:=VW a
 unfold val
 split
 ·rw[Int.natAbs_neg,Int.natAbs_natCast,Vr h1 h2]
 ·rw[Int.natAbs_natCast,Vr h1 h2]
theorem Zep(a:List UInt8):(Qi a).2=decide (val a<0):=by
 obtain⟨h1,h2,h3⟩:=VW a
 unfold val
 cases hn:(Qi a).2 with
 |false=>simp
 |true=>
  have hne:=h3 hn
  have hv:Qj (Qi a).1≠0:=by
   cases he:(Qi a).1 with
   |nil=>exact absurd he hne
   |cons b t=>rw[he] at h1;exact Vq h1 (h2 b t he)
  simp;omega
theorem Vs(n:Int):Qa n=(if n<0 then[45] else[])++QI n.natAbs:=by
 unfold Qa QI
 by_cases h:n=0
 ·subst h;rfl
 ·rw[if_neg h,if_neg (by omega:n.natAbs≠0)]
  split<;>rfl
theorem Zbq(a:List UInt8):Ym a=Qa (val a):=by
 unfold Ym;rw[Zep,ZfW,Vs]
 by_cases h:val a<0
 ·simp[h]
 ·simp[h]
def ZcD:Nat->Nat->List UInt8
 |0,_=>[]
 |k+1,g=>ZcD k (g/10)++[UInt8.ofNat (48+g%10)]
theorem ZfX(k:Nat):∀(x g:Nat),x≠0->g<10^k->QI (10^k*x+g)=QI x++ZcD k g:=by
 induction k with
 |zero=>intro x g hx hg;simp at hg;subst hg;simp[ZcD]
 |succ k ih=>
  intro x g hx hg;rw[Nat.pow_succ] at hg
  have e1:10^(k+1)*x+g=10*(10^k*x+g/10)+g%10:=by
   rw[Nat.pow_succ,Nat.mul_add,<-Nat.mul_assoc,Nat.mul_comm 10 (10^k)];omega
  have hne:10^(k+1)*x+g≠0:=by
   have:=Nat.mul_pos (Nat.pow_pos (n:=k+1) (show 0<10 by decide)) (Nat.pos_of_ne_zero hx)
   omega
  rw[Xq _ hne,e1,show(10*(10^k*x+g/10)+g%10)/10=10^k*x+g/10 by omega,show(10*(10^k*x+g/10)+g%10)%10=g%10 by omega,ih x (g/10) hx (by omega),ZcD,List.append_assoc]
theorem Zeq(k:Nat):∀g:Nat,g<10^(k+1)->(Lib.decDigits g).length<=k+1/\List.replicate (k+1-(Lib.decDigits g).length) 48++Lib.decDigits g=ZcD (k+1) g:=by
 induction k with
 |zero=>
  intro g hg;rw[Lib.decDigits,dif_pos (by omega)];refine⟨by simp,?_⟩;simp only[ZcD,List.nil_append];rw[Nat.mod_eq_of_lt (by omega)];rfl
 |succ k ih=>
  intro g hg;rw[Nat.pow_succ] at hg
  by_cases h10:g<10
  ·rw[Lib.decDigits,dif_pos h10];refine⟨by simp,?_⟩;obtain⟨i1,i2⟩:=ih (g/10) (by omega)
   have e0:g/10=0:=by omega
   rw[e0,Lib.decDigits,dif_pos (by omega)] at i2;rw[ZcD,e0,<-i2,Nat.mod_eq_of_lt h10];simp only[List.length_cons,List.length_nil,Nat.zero_add,Nat.add_sub_cancel];rw[List.replicate_succ',List.append_assoc,List.append_assoc];rfl
  ·rw[Lib.decDigits,dif_neg h10];obtain⟨i1,i2⟩:=ih (g/10) (by omega)
   refine⟨by rw[List.length_append];simp;omega,?_⟩;rw[ZcD,<-i2,List.length_append,List.length_singleton,show k+1+1-((Lib.decDigits (g/10)).length+1)=k+1-(Lib.decDigits (g/10)).length by omega,List.append_assoc]
theorem ZdF(x g:Nat)(hx:x≠0)(hg:g<1000000000):QI (g+1000000000*x)=QI x++(List.replicate (9-(Lib.decDigits g).length) 48++Lib.decDigits g):=by
 have h:=ZfX 9 x g hx (by omega);rw[(Zeq 8 g (by omega)).2,<-h]
 congr 1
 omega
end
section
open Go.RowKit Go.Shelf
theorem ZdG{l:List UInt8}(hall:l.all Qw=true)(hz:∀b t,l=b::t->(b==48)=false)(hn:l≠[]):Qi (45::l)=(l,true):=by
 have ht:Lib.trimPrefix (45::l) [45]=l:=by simp[Lib.trimPrefix,Lib.hasPrefix,List.isPrefixOf]
 have hp:Lib.hasPrefix (45::l) [45]=true:=by simp[Lib.hasPrefix,List.isPrefixOf]
 cases l with
 |nil=>exact absurd rfl hn
 |cons b t=>
  unfold Qi;simp only[ht,hall,hp,if_true];rw[List.dropWhile_cons,hz b t rfl];rfl
theorem Qd(n:Int):val (Qa n)=n:=by
 by_cases h0:n=0
 ·subst h0;decide+kernel
 ·have hne:n.natAbs≠0:=by omega
  obtain⟨b,l,e,h1,h2⟩:=Vp n.natAbs hne
  rw[Vs]
  by_cases hn:n<0
  ·rw[if_pos hn];have h:=ZdG (l:=QI n.natAbs) (VT _) (fun c t e'=>by rw[e] at e';injection e' with e1 e2;rw[<-e1];exact h1) (by rw[e];simp);unfold val;rw[show([45]++QI n.natAbs:List UInt8)=45::QI n.natAbs from rfl,h];simp only[if_true,Jp];omega
  ·rw[if_neg hn,List.nil_append];unfold val;rw[ZdE _ hne];simp only[Bool.false_eq_true,if_false,Jp];omega
theorem Yg:val []=0:=by decide+kernel
theorem ZfY{m n:Int}(h:Qa m=Qa n):m=n:=by rw[<-Qd m,h,Qd]
theorem Zaq{n:Int}:Qa n=[]↔n=0:=⟨fun h=>by rw[<-Qd n,h,Yg],fun h=>by rw[h];rfl⟩
theorem Zar(a:List UInt8):(val a).natAbs<10^a.length:=by
 have h1:=VV (VW a).1;have h2:=VS a;have h3:10^(Qi a).1.length<=10^a.length:=Nat.pow_le_pow_right (by omega) h2;unfold val
 split<;>omega
theorem JM{m L:Nat}:m<10^L->(QI m).length<=L:=by
 induction L generalizing m with
 |zero=>intro h;simp at h;subst h;simp[QI]
 |succ L ih=>
  intro h
  by_cases h0:m=0
  ·subst h0;simp[QI]
  ·rw[Xq m h0,List.length_append,List.length_singleton];have:=ih (m:=m/10) (by rw[Nat.pow_succ] at h;omega)
   omega
theorem Qf{n:Int}{L:Nat}(h:n.natAbs<10^L):(Qa n).length<=L+1:=by
 have:=JM h
 rw[Vs,List.length_append]
 split<;>simp<;>omega
structure Fr where
 n:List UInt8
 d:List UInt8
deriving DecidableEq
theorem Fr.ext_{f g:Fr}(h1:f.n=g.n)(h2:f.d=g.d):f=g:=by cases f;cases g;simp_all
def Fr.zero:Fr:=⟨[],[]⟩
def Fr.dv(f:Fr):Int:=if val f.d=0 then 1 else val f.d
theorem Fr.dv_ne(f:Fr):f.dv≠0:=by
 unfold Fr.dv
 split
 ·omega
 ·assumption
def Fr.rat(f:Fr):Rat:=Rat.divInt (val f.n) f.dv
def Qh(q:Rat):Fr:=⟨Qa q.num,if q.den=1 then[] else Qa q.den⟩
theorem Ql(q:Rat):(Qh q).rat=q:=by
 unfold Fr.rat Fr.dv Qh;simp only[Qd]
 by_cases h:q.den=1
 ·rw[if_pos h,if_pos Yg];have:=Rat.num_divInt_den q
  rw[h] at this;exact this
 ·rw[if_neg h,Qd,if_neg (by have:=q.den_nz;omega)];exact Rat.num_divInt_den q
theorem ZfZ{p q:Rat}(h:Qh p=Qh q):p=q:=by rw[<-Ql p,h,Ql]
theorem Zbr:Qh 0=Fr.zero:=rfl
theorem ZcE:Fr.zero.rat=0:=by rw[<-Zbr,Ql]
theorem Zbb(q:Rat):Qh q=Fr.zero↔q=0:=by
 rw[<-Zbr];exact⟨ZfZ,fun h=>by rw[h]⟩
theorem Zer(f g:Fr):f.rat+g.rat=Rat.divInt (val f.n*g.dv+val g.n*f.dv) (f.dv*g.dv):=Rat.divInt_add_divInt _ _ f.dv_ne g.dv_ne
theorem Zes(f g:Fr):f.rat-g.rat=Rat.divInt (val f.n*g.dv-val g.n*f.dv) (f.dv*g.dv):=Rat.divInt_sub_divInt _ _ f.dv_ne g.dv_ne
theorem Zet(f g:Fr):f.rat*g.rat=Rat.divInt (val f.n*val g.n) (f.dv*g.dv):=Rat.divInt_mul_divInt _ _
theorem ZhF(f g:Fr):f.rat/g.rat=Rat.divInt (val f.n*g.dv) (f.dv*val g.n):=by
 unfold Fr.rat;rw[Rat.div_def,Rat.inv_divInt,Rat.divInt_mul_divInt]
theorem ZcF(f:Fr):f.rat=0↔val f.n=0:=by
 unfold Fr.rat
 constructor
 ·intro h;have h2:Rat.divInt (val f.n) f.dv=Rat.divInt 0 1:=by rw[h];rfl
  rw[Rat.divInt_eq_divInt_iff f.dv_ne (by omega)] at h2;omega
 ·intro h;rw[h,Rat.zero_divInt]
theorem ZhG(n d:Int)(hd:0<d):Int.fdiv n (Int.gcd n d)=(Rat.divInt n d).num:=by
 rw[Rat.num_divInt,Int.sign_eq_one_of_pos hd,Int.one_mul,Int.gcd_comm d n,Int.fdiv_eq_ediv_of_nonneg _ (by omega)]
theorem ZhH(n d:Int)(hd:0<d):Int.fdiv d (Int.gcd n d)=(Rat.divInt n d).den:=by
 rw[Rat.den_divInt,if_neg (by omega),Int.gcd_comm d n,Int.fdiv_eq_ediv_of_nonneg _ (by omega),Int.natCast_ediv,Int.natAbs_of_nonneg (by omega)]
theorem ZhI(n d:Int)(hd:d≠0):(0:Int)<Int.gcd n d:=by
 have:=Int.gcd_pos_of_ne_zero_right n hd
 omega
theorem Zbc(n d:Int):(Rat.divInt n d).num.natAbs<=n.natAbs:=by
 rw[Rat.num_divInt];have h1:(d.sign*n/(d.gcd n:Int)).natAbs<=(d.sign*n).natAbs:=Int.natAbs_ediv_le_natAbs _ _
 have h2:(d.sign*n).natAbs<=n.natAbs:=by
  rw[Int.natAbs_mul]
  have:d.sign.natAbs<=1:=by
   rcases Int.lt_trichotomy d 0 with h|h|h
   ·rw[Int.sign_eq_neg_one_of_neg h];decide
   ·rw[h];decide
   ·rw[Int.sign_eq_one_of_pos h];decide
  calc d.sign.natAbs*n.natAbs<=1*n.natAbs:=Nat.mul_le_mul_right _ this
   _=n.natAbs:=Nat.one_mul _
 omega
theorem Zbd(n d:Int)(hd:d≠0):(Rat.divInt n d).den<=d.natAbs:=by
 rw[Rat.den_divInt,if_neg hd];exact Nat.div_le_self _ _
def RB(L:Nat)(q:Rat):Prop:=q.num.natAbs<10^L/\q.den<10^L
theorem RB.more{L M:Nat}{q:Rat}(h:RB L q)(hLM:L<=M):RB M q:=
 ⟨Nat.lt_of_lt_of_le h.1 (Nat.pow_le_pow_right (by omega) hLM),Nat.lt_of_lt_of_le h.2 (Nat.pow_le_pow_right (by omega) hLM)⟩
theorem RB.divInt{L:Nat}{n d:Int}(hn:n.natAbs<10^L)(hd:d.natAbs<10^L)(h0:d≠0):RB L (Rat.divInt n d):=
 ⟨Nat.lt_of_le_of_lt (Zbc n d) hn,Nat.lt_of_le_of_lt (Zbd n d h0) hd⟩
def Fr.Sz(L:Nat)(f:Fr):Prop:=f.n.length<=L/\f.d.length<=L
theorem Fr.dv_lt{f:Fr}{L:Nat}(h:f.d.length<=L)(hL:1<=L):f.dv.natAbs<10^L:=by
 unfold Fr.dv;have h1:=Zar f.d;have h2:10^f.d.length<=10^L:=Nat.pow_le_pow_right (by omega) h;have h3:10^1<=10^L:=Nat.pow_le_pow_right (by omega) hL
 split<;>omega
theorem Qu{a:List UInt8}{L:Nat}(h:a.length<=L):(val a).natAbs<10^L:=
 Nat.lt_of_lt_of_le (Zar a) (Nat.pow_le_pow_right (by omega) h)
theorem Qk{a b:Int}{L M:Nat}(ha:a.natAbs<10^L)(hb:b.natAbs<10^M):(a*b).natAbs<10^(L+M):=by
 rw[Int.natAbs_mul,Nat.pow_add];have h0:0<10^M:=Nat.pow_pos (by omega)
 rcases Nat.eq_zero_or_pos a.natAbs with h|h
 ·rw[h,Nat.zero_mul];exact Nat.mul_pos (Nat.pow_pos (by omega)) h0
 ·exact Nat.lt_of_lt_of_le (Nat.mul_lt_mul_of_pos_left hb h) (Nat.mul_le_mul_right _ (Nat.le_of_lt ha))
theorem Zas{a b:Int}{L:Nat}(ha:a.natAbs<10^L)(hb:b.natAbs<10^L):(a+b).natAbs<10^(L+1):=by
 rw[Nat.pow_succ];omega
theorem Zat{a b:Int}{L:Nat}(ha:a.natAbs<10^L)(hb:b.natAbs<10^L):(a-b).natAbs<10^(L+1):=by
 rw[Nat.pow_succ];omega
theorem YB{q:Rat}{L:Nat}(h:RB L q):(Qh q).Sz (L+1):=by
 refine⟨Qf h.1,?_⟩;unfold Qh;simp only
 split
 ·simp
 ·exact Qf (by simpa using h.2)
theorem ZiG{f:Fr}{L:Nat}(h:f.Sz L)(hL:1<=L):RB L f.rat:=RB.divInt (Qu h.1) (Fr.dv_lt h.2 hL) f.dv_ne
theorem Fr.Sz.more{f:Fr}{L M:Nat}(h:f.Sz L)(hLM:L<=M):f.Sz M:=⟨Nat.le_trans h.1 hLM,Nat.le_trans h.2 hLM⟩
theorem ZiP{f g:Fr}{L:Nat}(hf:f.Sz L)(hg:g.Sz L)(hL:1<=L):RB (L+L+1) (f.rat+g.rat):=by
 rw[Zer];have h0:=Int.mul_ne_zero f.dv_ne g.dv_ne;refine RB.divInt (Zas (Qk (Qu hf.1) (Fr.dv_lt hg.2 hL)) (Qk (Qu hg.1) (Fr.dv_lt hf.2 hL))) ?_ h0;exact Nat.lt_of_lt_of_le (Qk (Fr.dv_lt hf.2 hL) (Fr.dv_lt hg.2 hL)) (Nat.pow_le_pow_right (by omega) (by omega))
theorem ZiQ{f g:Fr}{L:Nat}(hf:f.Sz L)(hg:g.Sz L)(hL:1<=L):RB (L+L+1) (f.rat-g.rat):=by
 rw[Zes];have h0:=Int.mul_ne_zero f.dv_ne g.dv_ne;refine RB.divInt (Zat (Qk (Qu hf.1) (Fr.dv_lt hg.2 hL)) (Qk (Qu hg.1) (Fr.dv_lt hf.2 hL))) ?_ h0;exact Nat.lt_of_lt_of_le (Qk (Fr.dv_lt hf.2 hL) (Fr.dv_lt hg.2 hL)) (Nat.pow_le_pow_right (by omega) (by omega))
theorem Zf0{f g:Fr}{L:Nat}(hf:f.Sz L)(hg:g.Sz L)(hL:1<=L):RB (L+L) (f.rat*g.rat):=by
 rw[Zet];exact RB.divInt (Qk (Qu hf.1) (Qu hg.1)) (Qk (Fr.dv_lt hf.2 hL) (Fr.dv_lt hg.2 hL)) (Int.mul_ne_zero f.dv_ne g.dv_ne)
def YW(x y:Rat):Int:=if x<y then-1 else if y<x then 1 else 0
def QC(n:Int):Int:=if n<0 then-1 else if 0<n then 1 else 0
theorem ZeT(a c:Int){b d:Int}(hb:0<b)(hd:0<d):Rat.divInt a b<Rat.divInt c d↔a*d<c*b:=by
 have hb':(0:Rat)<(b:Rat):=by exact_mod_cast hb
 have hd':(0:Rat)<(d:Rat):=by exact_mod_cast hd
 rw[Rat.divInt_eq_div,Rat.divInt_eq_div,Rat.div_lt_iff hb',Rat.div_def c,Rat.mul_assoc,Rat.mul_comm _ (b:Rat),<-Rat.mul_assoc,<-Rat.div_def,Rat.lt_div_iff hd']
 exact_mod_cast Iff.rfl
theorem Zf1(x y:Rat):YW x y=QC (x-y).num:=by
 unfold YW QC
 have e1:(x-y).num<0↔x<y:=by
  have h:=Rat.num_nonneg (q:=x-y);have h2:=Rat.le_iff_sub_nonneg y x;rw[<-Rat.not_le,h2,<-h];omega
 have e2:0<(x-y).num↔y<x:=by
  have h:=Rat.num_nonneg (q:=y-x);have h2:=Rat.le_iff_sub_nonneg x y;rw[<-Rat.not_le,h2,<-h,<-Rat.neg_sub x y,Rat.neg_num];omega
 simp only[e1,e2]
def Fr.ok(f:Fr):Prop:=f=Qh f.rat
instance (f:Fr):Decidable f.ok:=inferInstanceAs (Decidable (f=Qh f.rat))
theorem ZbZ(q:Rat):(Qh q).ok:=by unfold Fr.ok;rw[Ql]
end
section
open Go.RowKit Go.Shelf
structure Lot where
 id:List UInt8
 inst:List UInt8
 acq:Int
 opn:Int
 q:List UInt8
 c:List UInt8
 u:List UInt8
deriving DecidableEq
def QU(a:List UInt8):Bool:=decide (a=Qa (val a))
theorem ZhJ{a:List UInt8}(h:QU a=true):a=Qa (val a):=by simpa[QU] using h
def Vy(c:UInt8):Bool:=(decide (97<=c)&&decide (c<=122))||(decide (48<=c)&&decide (c<=57))||c==95
def Qp(s:List UInt8):Bool:=decide (s≠[])&&decide (s.length<=16)&&s.all Vy
def ZcG(s:List UInt8):Bool:=decide (1<=s.length)&&decide (s.length<=4)&&decide (s.head?≠some 48)&&s.all Qw
def idB(s:List UInt8):Bool:=decide (47∈s)&&Qp (s.takeWhile (·!=47))&&ZcG ((s.dropWhile (·!=47)).drop 1)
def Jq(d:Int):Bool:=decide (-25567<=d)&&decide (d<=84005)
def JZ(l:Lot):Int:=
 if !(idB l.id&&Qp l.inst) then 23 else if !(Jq l.acq&&Jq l.opn) then 13 else if l.opn<l.acq then 8
 else if !(QU l.q&&QU l.c&&QU l.u) then 1 else if val l.q<=0\/val l.c<0\/(l.u≠[]/\l.u≠l.q) then 2 else 0
def Vz(seen:List (List UInt8)):List Lot->Int
 |[]=>0
 |x::l=>if JZ x≠0 then JZ x else if x.id∈seen then 5 else Vz (x.id::seen) l
def Zau(l:List Lot):Int:=if 1000<l.length then 4 else Vz [] l
structure Lot.Ok (l:Lot):Prop where
 id:idB l.id=true
 inst:Qp l.inst=true
 acq:Jq l.acq=true
 opn:Jq l.opn=true
 ord:l.acq<=l.opn
 q:QU l.q=true
 c:QU l.c=true
 q0:0<val l.q
 c0:0<=val l.c
 u:l.u=[]\/l.u=l.q
theorem Zeu(l:Lot):JZ l=0↔l.Ok:=by
 unfold JZ
 constructor
 ·intro h
  split at h
  ·cases h
  rename_i h1
  split at h
  ·cases h
  rename_i h2
  split at h
  ·cases h
  rename_i h3
  split at h
  ·cases h
  rename_i h4
  split at h
  ·cases h
  rename_i h5
  simp only[Bool.not_eq_true',Bool.not_eq_false,Bool.and_eq_true] at h1 h2 h4;simp only[not_or,not_and,Int.not_le,Int.not_lt] at h5;refine⟨h1.1,h1.2,h2.1,h2.2,by omega,h4.1.1,h4.1.2,h5.1,h5.2.1,?_⟩
  by_cases hu:l.u=[]
  ·exact .inl hu
  ·exact .inr (Classical.not_not.1 (h5.2.2 hu))
 ·intro h;rw[if_neg (by simp[h.id,h.inst]),if_neg (by simp[h.acq,h.opn]),if_neg (by have:=h.ord;omega),if_neg,if_neg]
  ·simp only[not_or,not_and,Int.not_le,Int.not_lt];refine⟨h.q0,h.c0,fun hu=> ?_⟩
   rcases h.u with e|e
   ·exact absurd e hu
   ·exact fun hn=>hn e
  ·have hcu:QU l.u=true:=by
    rcases h.u with e|e
    ·rw[e];decide+kernel
    ·rw[e];exact h.q
   simp[h.q,h.c,hcu]
theorem ZcH(seen:List (List UInt8))(l:List Lot):Vz seen l=0↔(∀x∈l,x.Ok)/\(l.map (·.id)).Nodup/\∀x∈l,x.id ∉ seen:=by
 induction l generalizing seen with
 |nil=>simp[Vz]
 |cons a l ih=>
  unfold Vz
  by_cases h1:JZ a≠0
  ·rw[if_pos h1]
   constructor
   ·intro h;exact absurd h h1
   ·intro h;exact absurd ((Zeu a).2 (h.1 a (by simp))) h1
  ·rw[if_neg h1]
   by_cases h2:a.id∈seen
   ·rw[if_pos h2]
    constructor
    ·intro h;cases h
    ·intro h;exact absurd h2 (h.2.2 a (by simp))
   ·rw[if_neg h2,ih];have h1':JZ a=0:=Classical.not_not.1 h1
    constructor
    ·intro⟨ha,hb,hc⟩
     refine⟨?_,?_,?_⟩
     ·intro x hx
      rcases List.mem_cons.1 hx with rfl|hx
      ·exact(Zeu _).1 h1'
      ·exact ha x hx
     ·rw[List.map_cons,List.nodup_cons];refine⟨?_,hb⟩;intro hm;obtain⟨x,hx,e⟩:=List.mem_map.1 hm
      exact hc x hx (by simp[e])
     ·intro x hx
      rcases List.mem_cons.1 hx with rfl|hx
      ·exact h2
      ·exact fun hs=>hc x hx (by simp[hs])
    ·intro⟨ha,hb,hc⟩
     rw[List.map_cons,List.nodup_cons] at hb;refine⟨fun x hx=>ha x (by simp[hx]),hb.2,fun x hx=> ?_⟩;simp only[List.mem_cons,not_or];exact⟨fun e=>hb.1 (List.mem_map.2 ⟨x,hx,e⟩),hc x (by simp[hx])⟩
structure LotsOk (l:List Lot):Prop where
 len:l.length<=1000
 ok:∀x∈l,x.Ok
 ids:(l.map (·.id)).Nodup
def leS(a b:List UInt8):Bool:=Op.bytesLess a b||a==b
def Zev(l:List Lot)(i:List UInt8):Nat:=l.length-(l.reverse.takeWhile (fun y=> !leS y.inst i)).length
def Zjj(l:List Lot)(x:Lot):List Lot:=l.take (Zev l x.inst)++x::l.drop (Zev l x.inst)
def Qb(l:List Lot)(i:List UInt8):List Lot:=l.filter (fun x=>x.inst==i)
end
section
open Go.RowKit Go.Shelf
def Yu(q:Rat):Int:=q.num.fdiv q.den
def YD(q:Rat):Int:=q.num.fmod q.den
theorem XT{n d e:Int}(he:0<e):(n*e).fdiv (d*e)=n.fdiv d:=by
 rw[Int.mul_comm n,Int.mul_comm d,Int.mul_fdiv_mul_of_pos _ _ he]
theorem Zf2(n d:Int)(hd:d≠0):n.fdiv d=Yu (Rat.divInt n d):=by
 have h1:=Rat.num_divInt_den (Rat.divInt n d);rw[Rat.divInt_eq_divInt_iff (by have:=(Rat.divInt n d).den_nz;omega) hd] at h1;unfold Yu;have he:(0:Int)<(Rat.divInt n d).den:=by have:=(Rat.divInt n d).den_pos;omega
 generalize (Rat.divInt n d).num=p at*;generalize ((Rat.divInt n d).den:Int)=e at*;rw[<-XT (n:=n) (d:=d) he,<-h1]
 rcases Int.lt_or_gt_of_ne hd with h|h
 ·have h2:=XT (n:=p) (d:=e) (e:= -d) (by omega);rw[<-h2,Int.mul_neg,Int.mul_neg,Int.neg_fdiv_neg,Int.mul_comm e d]
 ·rw[Int.mul_comm d e,XT h]
theorem Zb0(q:Rat):q.den*Yu q+YD q=q.num:=by
 unfold Yu YD;exact Int.mul_fdiv_add_fmod _ _
theorem Xs(q:Rat):0<=YD q/\YD q<q.den:=by
 unfold YD;have h:(0:Int)<q.den:=by have:=q.den_pos;omega
 exact⟨Int.fmod_nonneg_of_pos _ h,Int.fmod_lt_of_pos _ h⟩
def rnd(q:Rat):Int:=if(q.den:Int)<2*YD q\/(2*YD q=q.den/\(Yu q).fmod 2≠0) then Yu q+1 else Yu q
theorem Zf3(q:Rat):(Yu q).natAbs<=q.num.natAbs+1:=by
 have h1:=Zb0 q;obtain⟨h2,h3⟩:=Xs q
 have h4:(1:Int)<=q.den:=by have:=q.den_pos;omega
 generalize Yu q=f at*;generalize YD q=r at*;generalize (q.den:Int)=d at*;generalize q.num=n at*
 rcases Int.le_total 0 f with h|h
 ·have:1*f<=d*f:=Int.mul_le_mul_of_nonneg_right h4 h
  omega
 ·have:d*f<=1*f:=Int.mul_le_mul_of_nonpos_right h4 h
  have:f<0->d*(f+1)<=1*(f+1):=fun h5=>Int.mul_le_mul_of_nonpos_right h4 (by omega)
  rw[Int.mul_add] at this;omega
end
section
open Go.RowKit
theorem YE(n:Int):Rat.divInt n 1=(n:Rat):=by
 have:=Rat.num_divInt_den (n:Rat)
 simpa using this
end
section
open Go.RowKit Go.Shelf
theorem VD(a:List UInt8)(w:World)(ha:a.length<=1000000000):
 Calls Tryz.prog 93 #[S a] w fun e w'=>e=.returned (S (Ym a))/\Below w.1.size w w':=by
 have H:=jq (Zap a w ha);have HC:=jq (show Ym a=if(Qi a).2 then 45::(Qi a).1 else(Qi a).1 from rfl);have hl:=VS a;have hl2:(Qi a).1.length<=1000000000:=by omega
 clear hl;generalize (Qi a).1=t at*;generalize (Qi a).2=neg at*;unfold S at*
 cases neg with
 |true=>
  have hsz:(⟨t.toArray⟩:ByteArray).size<=1000000000:=by rw[QB];exact hl2
  go_enter Tryz.func93,Tryz.ntmps93
  go_wp2_with (go_at_call 82;refine H.out.mono ?_;rintro e w1 ⟨rfl,hb1⟩)
  go_ret
  rw[HC.out];exact⟨congrArg (fun b=>Ending.returned (.string b)) (ByteArray.mk_append_mk [45] t),hb1⟩
 |false=>
  go_enter Tryz.func93,Tryz.ntmps93
  go_wp2_with (go_at_call 82;refine H.out.mono ?_;rintro e w1 ⟨rfl,hb1⟩)
  go_ret
  rw[HC.out];exact⟨by simp,hb1⟩
end
section
open Go.RowKit Go.Shelf
theorem Zc9(n:Int)(h0: -9223372036854775808<=n)(h1:n<=9223372036854775807)(w:World)(hp:Pow w):
 Calls Tryz.prog 103 #[.int .i64 n] w fun e w'=>e=.returned (S (Lib.itoa n))/\Below w.1.size w w':=by
 refine(Tryz.strconv_Itoa n h0 h1 w hp).mono ?_;rintro e w' ⟨rfl,k,os,rfl⟩;exact⟨rfl,Lib.below_grow _ w (Nat.le_refl _) k os⟩
end
end Go.Proofs.YtlhmkgmojgnaaaaGreatDoor
