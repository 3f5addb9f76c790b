/- X0, X5, X6. -/
import Derived.Test.YtmfjmngebldanaaGreatDoorQGVe12
import Derived.Test.YtmfjmngebldanaaGreatDoorQGVe20
set_option maxRecDepth 20000
set_option maxHeartbeats 4000000
namespace Go.Proofs.YtmfjmngebldanaaGreatDoor
open Go.Lib renaming hid→jq
open Go.RowKit Go.Shelf
section
theorem Zdi(a:List UInt8):(⟨a,[]⟩:Fr).rat=((val a:Int):Rat):=by
 show Rat.divInt (val a) 1=_
 exact ZbU (val a)
theorem ZeO(a:List UInt8):(⟨a,[]⟩:Fr).ok↔JT a=true:=by
 unfold Fr.ok;rw[Zdi,ZjE]
 constructor
 ·intro h;have h1:a=Qe (val a):=congrArg Fr.n h;unfold JT;exact decide_eq_true h1
 ·intro h;rw[<-Zln h]
theorem Zf0(pos:Bool)(a:List UInt8):Qv pos false ⟨a,[]⟩=if JT a=false then 1 else if 40<XV a then 4 else if val a<(if pos=true then 1 else 0) then 2 else 0:=by
 unfold Qv;have h0:XV ([]:List UInt8)=0:=rfl
 by_cases h1:JT a=true
 ·have h2:=(ZeO a).2 h1;have h5:¬JT a=false:=by rw[h1];decide
  rw[if_neg (show ¬ ¬(⟨a,[]⟩:Fr).ok from fun h=>h h2),if_neg h5]
  show(if 40<XV a\/40<XV ([]:List UInt8) then(4:Int) else _)=_
  rw[h0]
  by_cases h3:40<XV a
  ·rw[if_pos (.inl h3),if_pos h3]
  ·rw[if_neg (by rintro(h|h)<;>omega),if_neg h3,Zdi];have e1:((val a:Int):Rat)<0↔val a<0:=by exact_mod_cast Iff.rfl
   have e2:((val a:Int):Rat)=0↔val a=0:=by exact_mod_cast Iff.rfl
   cases pos with
   |true=>
    by_cases h4:val a<1
    ·rw[if_pos (show val a<(if true=true then(1:Int) else 0) from h4),if_pos]
     by_cases h6:val a<0
     ·exact .inl (e1.2 h6)
     ·exact .inr (.inl ⟨rfl,e2.2 (by omega)⟩)
    ·rw[if_neg (show ¬val a<(if true=true then(1:Int) else 0) from h4),if_neg];rintro(h|⟨_,h⟩|⟨h,_⟩)
     ·have:=e1.1 h;omega
     ·have:=e2.1 h;omega
     ·cases h
   |false=>
    by_cases h4:val a<0
    ·rw[if_pos (show val a<(if false=true then(1:Int) else 0) from h4),if_pos (.inl (e1.2 h4))]
    ·rw[if_neg (show ¬val a<(if false=true then(1:Int) else 0) from h4),if_neg];rintro(h|⟨h,_⟩|⟨h,_⟩)
     ·exact h4 (e1.1 h)
     ·cases h
     ·cases h
 ·have h2:¬(⟨a,[]⟩:Fr).ok:=fun h=>h1 ((ZeO a).1 h)
  rw[if_pos h2,if_pos (by simpa using h1)]
def kFl(k:Int):List Nat:=
 match k with
 |1|2|6|17|18=>[2,5]
 |3=>[0,4,5,6]
 |4=>[0,4,5,6,10]
 |5|13|14|15=>[0,7]
 |7=>[1,2,4,5]
 |8=>[0,7,8]
 |9=>[0,1,7,8,9]
 |10=>[0,11]
 |11=>[0,3,12]
 |12=>[0,1,4,7,8]
 |16=>[1,2,8]
 |_=>[]
theorem ZlF{k:Int}{r:KRow}(h:QE k=some r)(i:Nat)(hi:i<13):(kFl k).contains i=r.has i:=by
 have key:∀(l:List Nat) (r:KRow),((List.range 13).all fun i=>l.contains i==r.has i)=true->l.contains i=r.has i:=fun l r h=>eq_of_beq (List.all_eq_true.1 h i (List.mem_range.2 hi))
 unfold QE at h
 split at h<;>first|(cases h;done)|(injection h with h;subst h;exact key _ _ (by decide))
theorem ZjF{k:Int}(h:QE k=none):kFl k=[]:=by
 unfold QE at h;unfold kFl
 split at h<;>first|(cases h;done)|(split<;>first|rfl|(exfalso;simp_all))
theorem JA(k:Int):QE k=none↔k<1\/18<k:=by
 constructor
 ·intro h
  by_cases h1:1<=k/\k<=18
  ·exfalso
   have:k=1\/k=2\/k=3\/k=4\/k=5\/k=6\/k=7\/k=8\/k=9\/k=10\/k=11\/k=12\/k=13\/k=14\/k=15\/k=16\/k=17\/k=18:=by omega
   rcases this with rfl|rfl|rfl|rfl|rfl|rfl|rfl|rfl|rfl|rfl|rfl|rfl|rfl|rfl|rfl|rfl|rfl|rfl<;>cases h
  ·omega
 ·intro h;unfold QE
  split<;>first|rfl|(exfalso;omega)
def ZeP(k:Int):Bool:= !(decide (k=3)||decide (k=4))
theorem Zod{k:Int}{r:KRow}(h:QE k=some r)(hi:r.has 5=true):r.nums.find? (fun x=>x.1==5)=some (5,ZeP k,false):=by
 unfold QE at h
 split at h<;>first|(cases h;done)|(injection h with h;subst h;first|rfl|exact absurd hi (by decide))
theorem Zoe{k:Int}{r:KRow}(h:QE k=some r)(hi:r.has 4=true):r.nums.find? (fun x=>x.1==4)=some (4,true,false):=by
 unfold QE at h
 split at h<;>first|(cases h;done)|(injection h with h;subst h;first|rfl|exact absurd hi (by decide))
theorem Zof{k:Int}{r:KRow}(h:QE k=some r)(hi:r.has 6=true):r.nums.find? (fun x=>x.1==6)=some (6,false,false):=by
 unfold QE at h
 split at h<;>first|(cases h;done)|(injection h with h;subst h;first|rfl|exact absurd hi (by decide))
def ZhW(k:Int):Bool:=decide (k=5)||decide (k=13)
theorem Zog{k:Int}{r:KRow}(h:QE k=some r)(hi:r.has 7=true):r.nums.find? (fun x=>x.1==7)=some (7,ZhW k,false):=by
 unfold QE at h
 split at h<;>first|(cases h;done)|(injection h with h;subst h;first|rfl|exact absurd hi (by decide))
theorem Zoh{k:Int}{r:KRow}(h:QE k=some r)(hi:r.has 8=true):r.nums.find? (fun x=>x.1==8)=some (8,true,false):=by
 unfold QE at h
 split at h<;>first|(cases h;done)|(injection h with h;subst h;first|rfl|exact absurd hi (by decide))
theorem Zoi{k:Int}{r:KRow}(h:QE k=some r)(hi:r.has 9=true):r.nums.find? (fun x=>x.1==9)=some (9,false,true):=by
 unfold QE at h
 split at h<;>first|(cases h;done)|(injection h with h;subst h;first|rfl|exact absurd hi (by decide))
theorem ZjG{k:Int}{r:KRow}(h:QE k=some r):r.code=(decide (k=7)||decide (k=16)):=by
 unfold QE at h
 split at h<;>first|(cases h;done)|(injection h with h;subst h;rfl)
theorem ZeQ(p:Pk)(ps pre:List Pk)(sum:Int):Xt (p::ps) pre sum=if idB p.lot=false then(23,sum) else if pre.any (fun x=>x.lot==p.lot) then(5,sum)
 else if Qv true false ⟨p.q,[]⟩≠0 then(Qv true false ⟨p.q,[]⟩,sum) else Xt ps (pre++[p]) (sum+val p.q):=rfl
theorem Zf1(inst:List UInt8)(o:Opn)(os:List Opn):YN inst (o::os)=if o.other≠[]/\Qr o.other=false then 23 else if o.other=inst then 18
 else if Qv false false o.ratio≠0 then Qv false false o.ratio else if Qv false false o.price≠0 then Qv false false o.price else if Qv false false o.value≠0 then Qv false false o.value
 else if decide (o.other≠[])≠decide (o.ratio≠⟨[],[]⟩)\/(o.other=[]/\o.value≠⟨[],[]⟩) then 2 else YN inst os:=rfl
theorem Zf2(f:Fct)(r:KRow)(i:Nat)(hi:i<13):YA f r i (13-i)=if r.has i=true then(if Qy f r i≠0 then Qy f r i else YA f r (i+1) (13-(i+1))) else if f.none i=false then 1 else YA f r (i+1) (13-(i+1)):=by
 have e:13-i=(13-(i+1))+1:=by omega
 rw[e];rfl
theorem ZjH(f:Fct)(hc:f.cancelled=true):f=⟨f.key,f.stamp,true,0,0,[],[],[],[],[],[],[],⟨[],[]⟩,⟨[],[]⟩,⟨[],[]⟩,[],[],0⟩↔(∀i,i<13->f.none i=true)/\f.day=0/\f.kind=0:=by
 constructor
 ·intro h;rw[h];refine⟨fun i hi=> ?_,rfl,rfl⟩
  rcases(show i=0\/i=1\/i=2\/i=3\/i=4\/i=5\/i=6\/i=7\/i=8\/i=9\/i=10\/i=11\/i=12 by omega) with rfl|rfl|rfl|rfl|rfl|rfl|rfl|rfl|rfl|rfl|rfl|rfl|rfl<;>rfl
 ·intro⟨h,hd,hk⟩
  have h0:f.inst=[]:=eq_of_beq (h 0 (by omega));have h1:f.other=[]:=eq_of_beq (h 1 (by omega));have h2:f.cur=[]:=eq_of_beq (h 2 (by omega));have h3:f.target=[]:=eq_of_beq (h 3 (by omega));have h4:(⟨f.q,[]⟩:Fr)=⟨[],[]⟩:=of_decide_eq_true (h 4 (by omega));have h5:(⟨f.amount,[]⟩:Fr)=⟨[],[]⟩:=of_decide_eq_true (h 5 (by omega));have h6:(⟨f.fee,[]⟩:Fr)=⟨[],[]⟩:=of_decide_eq_true (h 6 (by omega));have h7:f.price=⟨[],[]⟩:=of_decide_eq_true (h 7 (by omega));have h8:f.ratio=⟨[],[]⟩:=of_decide_eq_true (h 8 (by omega));have h9:f.share=⟨[],[]⟩:=of_decide_eq_true (h 9 (by omega));have h10:f.picks=[]:=List.isEmpty_iff.1 (h 10 (by omega));have h11:f.options=[]:=List.isEmpty_iff.1 (h 11 (by omega));have h12:f.choice=0:=eq_of_beq (h 12 (by omega));have g4:f.q=[]:=congrArg Fr.n h4;have g5:f.amount=[]:=congrArg Fr.n h5;have g6:f.fee=[]:=congrArg Fr.n h6
  cases f
  simp only at*
  subst hc hd hk h0 h1 h2 h3 g4 g5 g6 h7 h8 h9 h10 h11 h12
  rfl
end
section
attribute [local go_sem ↓] Go.wp_at_zero Go.wp_at_succ
structure NoK (k:Int):Prop where
 h1:(k==1)=false
 h2:(k==2)=false
 h3:(k==3)=false
 h4:(k==4)=false
 h5:(k==5)=false
 h6:(k==6)=false
 h7:(k==7)=false
 h8:(k==8)=false
 h9:(k==9)=false
 h10:(k==10)=false
 h11:(k==11)=false
 h12:(k==12)=false
 h13:(k==13)=false
 h14:(k==14)=false
 h15:(k==15)=false
 h16:(k==16)=false
 h17:(k==17)=false
 h18:(k==18)=false
theorem ZjI(k:Int):(k=1\/k=2\/k=3\/k=4\/k=5\/k=6\/k=7\/k=8\/k=9\/k=10\/k=11\/k=12\/k=13\/k=14\/k=15\/k=16\/k=17\/k=18)\/((k<1\/18<k)/\NoK k):=by
 by_cases h:1<=k/\k<=18
 ·exact .inl (by omega)
 ·refine .inr ⟨by omega,?_,?_,?_,?_,?_,?_,?_,?_,?_,?_,?_,?_,?_,?_,?_,?_,?_,?_⟩<;>exact beq_false_of_ne (by omega)
theorem ZhX(k:Int)(w:World):Calls Tryz.prog 80 #[.int .i64 k] w fun e w'=>(∃s:List UInt8,e=.returned (S s)/\s.isEmpty=decide (k<1\/18<k))/\w=w':=by
 unfold S
 rcases ZjI k with h|⟨hk,h⟩
 ·rcases h with rfl|rfl|rfl|rfl|rfl|rfl|rfl|rfl|rfl|rfl|rfl|rfl|rfl|rfl|rfl|rfl|rfl|rfl
  all_goals
   go_enter Tryz.func80,Tryz.ntmps80
   go_wp2
   go_ret
   exact⟨⟨_,rfl,by decide⟩,rfl⟩
 ·obtain⟨h1,h2,h3,h4,h5,h6,h7,h8,h9,h10,h11,h12,h13,h14,h15,h16,h17,h18⟩:=h
  have HK:=jq hk;clear hk;go_enter Tryz.func80,Tryz.ntmps80
  go_wp2
  go_ret
  exact⟨⟨[],rfl,by rw[decide_eq_true HK.out];rfl⟩,rfl⟩
def J1(x:Nat):List Value:=[.int .i64 (x:Int)]
theorem Zm6(x:Nat):(J1 x).length=1:=rfl
theorem ZeR(k:Int)(w:World):Calls Tryz.prog 117 #[.int .i64 k] w fun e w'=>∃A n,e=.returned (.slice A n n)/\Sl J1 1 w' w'.1.size A n (kFl k)/\Below w.1.size w w':=by
 have HA:=jq (fun(l:List Nat)=>(show Sl J1 1 (w.alloc (.cells (l.map fun(x:Nat)=>Value.int .i64 (x:Int)).toArray 3)) (w.alloc (.cells (l.map fun(x:Nat)=>Value.int .i64 (x:Int)).toArray 3)).heap.size (some ⟨w.1.size,0,none⟩) l.length l/\Below w.1.size w (w.alloc (.cells (l.map fun(x:Nat)=>Value.int .i64 (x:Int)).toArray 3)) from
  ⟨(Sl.lit w _ 3 l (by induction l with|nil=>rfl|cons a t ih=>simp only[List.map_cons,List.flatMap_cons,J1,List.singleton_append];exact congrArg _ ih) Zm6).more (by simp),(Below.refl _ _).alloc (Nat.le_refl _) _⟩))
 replace HA:=jq (HA.out (kFl k))
 rcases ZjI k with h|⟨hk,h⟩
 ·rcases h with rfl|rfl|rfl|rfl|rfl|rfl|rfl|rfl|rfl|rfl|rfl|rfl|rfl|rfl|rfl|rfl|rfl|rfl
  all_goals
   go_enter Tryz.func117,Tryz.ntmps117
   go_wp2
   go_ret
   exact⟨_,_,rfl,HA.out.1,HA.out.2⟩
 ·rw[show kFl k=[] from ZjF ((JA k).2 hk)];obtain⟨h1,h2,h3,h4,h5,h6,h7,h8,h9,h10,h11,h12,h13,h14,h15,h16,h17,h18⟩:=h
  clear hk;go_enter Tryz.func117,Tryz.ntmps117
  go_wp2
  go_ret
  exact⟨none,0,rfl,Sl.nil,Below.refl _ _⟩
theorem Sl.nt{w:World}{B:Nat}{A:Option Addr}{n:Nat}{xs:List Nat}{i:Nat}(h:Sl J1 1 w B A n xs)(hi:i<n):
 ∃b off x,A=some ⟨b,off,none⟩/\b<B/\xs[i]?=some x/\w.cell? ⟨b,off+i,none⟩=some (.int .i64 (x:Int)):=by
 obtain⟨b,off,x,hA,hb,hx,hc⟩:=h.at_ hi
 have:=hc 0 _ rfl
 rw[Nat.mul_one,Nat.add_zero] at this;exact⟨b,off,x,hA,hb,hx,this⟩
theorem ZjJ(k:Int)(i:Nat)(w:World):Calls Tryz.prog 81 #[.int .i64 k,.int .i64 (i:Int)] w fun e w'=>e=.returned (.bool ((kFl k).contains i))/\Below w.1.size w w':=by
 have HF:=jq (ZeR k w);have HLN:=jq (show(kFl k).length<=5 by unfold kFl;split<;>decide);generalize kFl k=l at*;go_enter Tryz.func81,Tryz.ntmps81
 go_wp2_with fail
 refine HF.out.mono ?_;rintro e w1 ⟨A,n,rfl,hs,hb1⟩;have HS:=jq hs;have HB:=jq hb1;have hnl:=hs.1;have hn5:n<=5:=by rw[hnl];exact HLN.out
 clear HF hs hb1 HLN;go_wp2_with fail
 go_loopw [6] (fun j wr=>∃m:Nat,m<=n/\j=.int .i64 m/\Hid ((l.take m).contains i=false)/\Hid (Below w1.1.size w1 wr)) (fun j _=>n-(intOf j).toNat)
 case atStart=>exact⟨0,Nat.zero_le _,rfl,by show _=_;simp,Below.refl _ _⟩
 case round=>
  obtain⟨m,hm,rfl,HC,HBR⟩:=hrel
  by_cases hlt:m<n
  ·obtain⟨b,off,x,rfl,hb,hx,c0⟩:=(HS.out.below HBR.out).nt hlt
   have HX:=jq hx;clear hb hx
   by_cases hxi:x=i
   ·have hq:((x:Int)==(i:Int))=true:=by rw[hxi];simp
    have HR:=jq (show l.contains i=true by rw[<-hxi];exact List.contains_iff_mem.2 (List.mem_of_getElem? HX.out));clear hxi;go_wp2_with fail
    go_ret
    exact⟨Qd HR.out.symm,HB.out.trans (HBR.out.mono HB.out.size)⟩
   ·have hq:((x:Int)==(i:Int))=false:=beq_false_of_ne (by omega)
    have HR:=jq (show(l.take (m+1)).contains i=false by
     obtain⟨h1,h2⟩:=List.getElem?_eq_some_iff.1 HX.out
     have h3:=HC.out;rw[List.take_succ_eq_append_getElem h1,h2];simp only[List.contains_eq_mem,decide_eq_false_iff_not,List.mem_append,List.mem_singleton] at h3 ⊢;rintro(h|h)
     ·exact h3 h
     ·exact hxi h.symm)
    clear hxi;go_wp2_with fail
    go_roundw
    case rel=>exact⟨m+1,by omega,by go_num,HR.out,HBR.out⟩
    case measure=>simp[intOf];omega
  ·have HR:=jq (show l.contains i=false by have:=HC.out;rwa [List.take_of_length_le (by omega)] at this);go_wp2_with fail
   go_ret
   exact⟨Qd HR.out.symm,HB.out.trans (HBR.out.mono HB.out.size)⟩
theorem Zd2(k:Int)(w:World):Calls Tryz.prog 149 #[.int .i64 k] w fun e w'=>e=.returned (.bool (decide (k=7)||decide (k=16)))/\w=w':=by
 by_cases h7:k=7
 ·subst h7;go_enter Tryz.func149,Tryz.ntmps149
  go_wp2
  go_ret
  exact⟨rfl,rfl⟩
 ·have h7':(k==7)=false:=beq_false_of_ne h7;have H7:=jq h7
  by_cases h16:k=16
  ·subst h16;clear h7;go_enter Tryz.func149,Tryz.ntmps149
   go_wp2
   go_ret
   exact⟨rfl,rfl⟩
  ·have h16':(k==16)=false:=beq_false_of_ne h16;have H16:=jq h16;clear h7 h16;go_enter Tryz.func149,Tryz.ntmps149
   go_wp2
   go_ret
   exact⟨Qd (by simp[H7.out,H16.out]),rfl⟩
theorem Zf3(k:Int)(w:World):Calls Tryz.prog 122 #[.int .i64 k,.int .i64 5] w fun e w'=>e=.returned (S (if ZeP k=true then[49] else[]))/\w=w':=by
 have HL:=jq (show ZeP k= !(decide (k=3)||decide (k=4)) from rfl);unfold S
 by_cases h7:k=3
 ·subst h7;go_enter Tryz.func122,Tryz.ntmps122
  go_wp2
  go_ret
  exact⟨rfl,rfl⟩
 ·have h7':(k==3)=false:=beq_false_of_ne h7
  by_cases h16:k=4
  ·subst h16;clear h7;go_enter Tryz.func122,Tryz.ntmps122
   go_wp2
   go_ret
   exact⟨rfl,rfl⟩
  ·have h16':(k==4)=false:=beq_false_of_ne h16;have HR:=jq (show ZeP k=true by rw[HL.out];simp[h7,h16]);clear h7 h16 HL;go_enter Tryz.func122,Tryz.ntmps122
   go_wp2
   go_ret
   exact⟨by first|rfl|(rw[HR.out];rfl),rfl⟩
end
section
attribute [local go_sem ↓] Go.wp_at_zero Go.wp_at_succ Ql
theorem emp(t:List UInt8):(t==[])=t.isEmpty:=by cases t<;>rfl
theorem Zeh(f:Fr):decide (f=⟨[],[]⟩)=(f.n.isEmpty&&f.d.isEmpty):=by
 cases f with
 |mk n d=>cases n<;>cases d<;>simp
theorem Zei(t:List UInt8):decide ((⟨t,[]⟩:Fr)=⟨[],[]⟩)=t.isEmpty:=by rw[Zeh];simp
theorem Zmh(f:Fct)(v:FaV)(w:World)(hp:Env w):Calls Tryz.prog 78 #[.agg (Qb f v),.int .i64 0] w fun e w'=>e=.returned (.bool (f.none 0))/\Below w.1.size w w':=by
 have H:=jq ((Kp.start hp).new w.1.size rfl (Qb f v) 43);have HE:=jq (show f.none 0=f.inst.isEmpty from emp f.inst);have K:=jq (show(Qb f v)[5]?=some (.string ⟨f.inst.toArray⟩) from rfl);generalize f.none 0=res at*;generalize Qb f v=fb at*;generalize f.inst=t at*;have x:=H.out.c 0 5 rfl K.out;clear hp
 cases he:t.isEmpty
 all_goals
  rw[he] at HE;go_enter Tryz.func78,Tryz.ntmps78
  go_wp2_with fail
  first|go_ret|skip
  exact⟨Qd HE.out.symm,H.out.bl⟩
theorem Zmi(f:Fct)(v:FaV)(w:World)(hp:Env w):Calls Tryz.prog 78 #[.agg (Qb f v),.int .i64 1] w fun e w'=>e=.returned (.bool (f.none 1))/\Below w.1.size w w':=by
 have H:=jq ((Kp.start hp).new w.1.size rfl (Qb f v) 43);have HE:=jq (show f.none 1=f.other.isEmpty from emp f.other);have K:=jq (show(Qb f v)[6]?=some (.string ⟨f.other.toArray⟩) from rfl);generalize f.none 1=res at*;generalize Qb f v=fb at*;generalize f.other=t at*;have x:=H.out.c 0 6 rfl K.out;clear hp
 cases he:t.isEmpty
 all_goals
  rw[he] at HE;go_enter Tryz.func78,Tryz.ntmps78
  go_wp2_with fail
  first|go_ret|skip
  exact⟨Qd HE.out.symm,H.out.bl⟩
theorem Zmj(f:Fct)(v:FaV)(w:World)(hp:Env w):Calls Tryz.prog 78 #[.agg (Qb f v),.int .i64 2] w fun e w'=>e=.returned (.bool (f.none 2))/\Below w.1.size w w':=by
 have H:=jq ((Kp.start hp).new w.1.size rfl (Qb f v) 43);have HE:=jq (show f.none 2=f.cur.isEmpty from emp f.cur);have K:=jq (show(Qb f v)[7]?=some (.string ⟨f.cur.toArray⟩) from rfl);generalize f.none 2=res at*;generalize Qb f v=fb at*;generalize f.cur=t at*;have x:=H.out.c 0 7 rfl K.out;clear hp
 cases he:t.isEmpty
 all_goals
  rw[he] at HE;go_enter Tryz.func78,Tryz.ntmps78
  go_wp2_with fail
  first|go_ret|skip
  exact⟨Qd HE.out.symm,H.out.bl⟩
theorem Zmk(f:Fct)(v:FaV)(w:World)(hp:Env w):Calls Tryz.prog 78 #[.agg (Qb f v),.int .i64 3] w fun e w'=>e=.returned (.bool (f.none 3))/\Below w.1.size w w':=by
 have H:=jq ((Kp.start hp).new w.1.size rfl (Qb f v) 43);have HE:=jq (show f.none 3=f.target.isEmpty from emp f.target);have K:=jq (show(Qb f v)[8]?=some (.string ⟨f.target.toArray⟩) from rfl);generalize f.none 3=res at*;generalize Qb f v=fb at*;generalize f.target=t at*;have x:=H.out.c 0 8 rfl K.out;clear hp
 cases he:t.isEmpty
 all_goals
  rw[he] at HE;go_enter Tryz.func78,Tryz.ntmps78
  go_wp2_with fail
  first|go_ret|skip
  exact⟨Qd HE.out.symm,H.out.bl⟩
theorem Zml(f:Fct)(v:FaV)(w:World)(hp:Env w):Calls Tryz.prog 78 #[.agg (Qb f v),.int .i64 4] w fun e w'=>e=.returned (.bool (f.none 4))/\Below w.1.size w w':=by
 have H:=jq ((Kp.start hp).new w.1.size rfl (Qb f v) 43);have HE:=jq (show f.none 4=f.q.isEmpty from Zei f.q);have K:=jq (show(Qb f v)[9]?=some (.string ⟨f.q.toArray⟩) from rfl);generalize f.none 4=res at*;generalize Qb f v=fb at*;generalize f.q=t at*;have x:=H.out.c 0 9 rfl K.out;clear hp
 cases he:t.isEmpty
 all_goals
  rw[he] at HE;go_enter Tryz.func78,Tryz.ntmps78
  go_wp2_with fail
  first|go_ret|skip
  exact⟨Qd HE.out.symm,H.out.bl⟩
theorem Zmm(f:Fct)(v:FaV)(w:World)(hp:Env w):Calls Tryz.prog 78 #[.agg (Qb f v),.int .i64 5] w fun e w'=>e=.returned (.bool (f.none 5))/\Below w.1.size w w':=by
 have H:=jq ((Kp.start hp).new w.1.size rfl (Qb f v) 43);have HE:=jq (show f.none 5=f.amount.isEmpty from Zei f.amount);have K:=jq (show(Qb f v)[10]?=some (.string ⟨f.amount.toArray⟩) from rfl);generalize f.none 5=res at*;generalize Qb f v=fb at*;generalize f.amount=t at*;have x:=H.out.c 0 10 rfl K.out;clear hp
 cases he:t.isEmpty
 all_goals
  rw[he] at HE;go_enter Tryz.func78,Tryz.ntmps78
  go_wp2_with fail
  first|go_ret|skip
  exact⟨Qd HE.out.symm,H.out.bl⟩
theorem Zmn(f:Fct)(v:FaV)(w:World)(hp:Env w):Calls Tryz.prog 78 #[.agg (Qb f v),.int .i64 6] w fun e w'=>e=.returned (.bool (f.none 6))/\Below w.1.size w w':=by
 have H:=jq ((Kp.start hp).new w.1.size rfl (Qb f v) 43);have HE:=jq (show f.none 6=f.fee.isEmpty from Zei f.fee);have K:=jq (show(Qb f v)[11]?=some (.string ⟨f.fee.toArray⟩) from rfl);generalize f.none 6=res at*;generalize Qb f v=fb at*;generalize f.fee=t at*;have x:=H.out.c 0 11 rfl K.out;clear hp
 cases he:t.isEmpty
 all_goals
  rw[he] at HE;go_enter Tryz.func78,Tryz.ntmps78
  go_wp2_with fail
  first|go_ret|skip
  exact⟨Qd HE.out.symm,H.out.bl⟩
theorem Zmo(f:Fct)(v:FaV)(w:World)(hp:Env w):Calls Tryz.prog 78 #[.agg (Qb f v),.int .i64 7] w fun e w'=>e=.returned (.bool (f.none 7))/\Below w.1.size w w':=by
 have H:=jq ((Kp.start hp).new w.1.size rfl (Qb f v) 43);have HE:=jq (show f.none 7=(f.price.n.isEmpty&&f.price.d.isEmpty) from Zeh f.price);have K:=jq (show(Qb f v)[12]?=some (.string ⟨f.price.n.toArray⟩) from rfl);have K2:=jq (show(Qb f v)[13]?=some (.string ⟨f.price.d.toArray⟩) from rfl);generalize f.none 7=res at*;generalize Qb f v=fb at*;generalize f.price=t at*;have x:=H.out.c 0 12 rfl K.out;have y:=H.out.c 0 13 rfl K2.out;clear hp
 cases hn:t.n.isEmpty<;>cases hd:t.d.isEmpty
 all_goals
  rw[hn,hd] at HE;go_enter Tryz.func78,Tryz.ntmps78
  go_wp2_with fail
  first|go_ret|skip
  exact⟨Qd HE.out.symm,H.out.bl⟩
theorem Zmp(f:Fct)(v:FaV)(w:World)(hp:Env w):Calls Tryz.prog 78 #[.agg (Qb f v),.int .i64 8] w fun e w'=>e=.returned (.bool (f.none 8))/\Below w.1.size w w':=by
 have H:=jq ((Kp.start hp).new w.1.size rfl (Qb f v) 43);have HE:=jq (show f.none 8=(f.ratio.n.isEmpty&&f.ratio.d.isEmpty) from Zeh f.ratio);have K:=jq (show(Qb f v)[14]?=some (.string ⟨f.ratio.n.toArray⟩) from rfl);have K2:=jq (show(Qb f v)[15]?=some (.string ⟨f.ratio.d.toArray⟩) from rfl);generalize f.none 8=res at*;generalize Qb f v=fb at*;generalize f.ratio=t at*;have x:=H.out.c 0 14 rfl K.out;have y:=H.out.c 0 15 rfl K2.out;clear hp
 cases hn:t.n.isEmpty<;>cases hd:t.d.isEmpty
 all_goals
  rw[hn,hd] at HE;go_enter Tryz.func78,Tryz.ntmps78
  go_wp2_with fail
  first|go_ret|skip
  exact⟨Qd HE.out.symm,H.out.bl⟩
theorem Zmq(f:Fct)(v:FaV)(w:World)(hp:Env w):Calls Tryz.prog 78 #[.agg (Qb f v),.int .i64 9] w fun e w'=>e=.returned (.bool (f.none 9))/\Below w.1.size w w':=by
 have H:=jq ((Kp.start hp).new w.1.size rfl (Qb f v) 43);have HE:=jq (show f.none 9=(f.share.n.isEmpty&&f.share.d.isEmpty) from Zeh f.share);have K:=jq (show(Qb f v)[16]?=some (.string ⟨f.share.n.toArray⟩) from rfl);have K2:=jq (show(Qb f v)[17]?=some (.string ⟨f.share.d.toArray⟩) from rfl);generalize f.none 9=res at*;generalize Qb f v=fb at*;generalize f.share=t at*;have x:=H.out.c 0 16 rfl K.out;have y:=H.out.c 0 17 rfl K2.out;clear hp
 cases hn:t.n.isEmpty<;>cases hd:t.d.isEmpty
 all_goals
  rw[hn,hd] at HE;go_enter Tryz.func78,Tryz.ntmps78
  go_wp2_with fail
  first|go_ret|skip
  exact⟨Qd HE.out.symm,H.out.bl⟩
theorem ZkU(f:Fct)(v:FaV)(w:World)(hp:Env w)(hn:v.pn=f.picks.length):Calls Tryz.prog 78 #[.agg (Qb f v),.int .i64 10] w fun e w'=>e=.returned (.bool (f.none 10))/\Below w.1.size w w':=by
 have H:=jq ((Kp.start hp).new w.1.size rfl (Qb f v) 43);have HE:=jq (show f.none 10=f.picks.isEmpty from rfl);have K:=jq (show(Qb f v)[18]?=some (.slice v.pA v.pn v.pc) from rfl);have HN:=jq (show(((v.pn:Nat):Int)==0)=f.picks.isEmpty by rw[hn];cases f.picks<;>simp;omega);generalize f.none 10=res at*;generalize Qb f v=fb at*;have x:=H.out.c 0 18 rfl K.out;clear hp hn;generalize f.picks.isEmpty=b at*;have hb:=HN.out;clear HN;go_enter Tryz.func78,Tryz.ntmps78
 go_wp2_with fail
 first|go_ret|skip
 exact⟨Qd HE.out.symm,H.out.bl⟩
theorem ZkV(f:Fct)(v:FaV)(w:World)(hp:Env w)(hn:v.on=f.options.length):Calls Tryz.prog 78 #[.agg (Qb f v),.int .i64 11] w fun e w'=>e=.returned (.bool (f.none 11))/\Below w.1.size w w':=by
 have H:=jq ((Kp.start hp).new w.1.size rfl (Qb f v) 43);have HE:=jq (show f.none 11=f.options.isEmpty from rfl);have K:=jq (show(Qb f v)[19]?=some (.slice v.oA v.on v.oc) from rfl);have HN:=jq (show(((v.on:Nat):Int)==0)=f.options.isEmpty by rw[hn];cases f.options<;>simp;omega);generalize f.none 11=res at*;generalize Qb f v=fb at*;have x:=H.out.c 0 19 rfl K.out;clear hp hn;generalize f.options.isEmpty=b at*;have hb:=HN.out;clear HN;go_enter Tryz.func78,Tryz.ntmps78
 go_wp2_with fail
 first|go_ret|skip
 exact⟨Qd HE.out.symm,H.out.bl⟩
theorem ZkW(f:Fct)(v:FaV)(w:World)(hp:Env w):Calls Tryz.prog 78 #[.agg (Qb f v),.int .i64 12] w fun e w'=>e=.returned (.bool (f.none 12))/\Below w.1.size w w':=by
 have H:=jq ((Kp.start hp).new w.1.size rfl (Qb f v) 43);have HE:=jq (show f.none 12=(f.choice==0) from rfl);have K:=jq (show(Qb f v)[20]?=some (.int .i64 f.choice) from rfl);generalize f.none 12=res at*;generalize Qb f v=fb at*;generalize f.choice=t at*;have x:=H.out.c 0 20 rfl K.out;clear hp
 cases he:(t==0)
 all_goals
  rw[he] at HE;go_enter Tryz.func78,Tryz.ntmps78
  go_wp2_with fail
  first|go_ret|skip
  exact⟨Qd HE.out.symm,H.out.bl⟩
theorem Ziw(f:Fct)(v:FaV)(i:Nat)(hi:i<13)(w:World)(hp:Env w)(h1:v.pn=f.picks.length)(h2:v.on=f.options.length):Calls Tryz.prog 78 #[.agg (Qb f v),.int .i64 (i:Int)] w fun e w'=>e=.returned (.bool (f.none i))/\Below w.1.size w w':=by
 rcases(show i=0\/i=1\/i=2\/i=3\/i=4\/i=5\/i=6\/i=7\/i=8\/i=9\/i=10\/i=11\/i=12 by omega) with rfl|rfl|rfl|rfl|rfl|rfl|rfl|rfl|rfl|rfl|rfl|rfl|rfl
 ·exact Zmh f v w hp
 ·exact Zmi f v w hp
 ·exact Zmj f v w hp
 ·exact Zmk f v w hp
 ·exact Zml f v w hp
 ·exact Zmm f v w hp
 ·exact Zmn f v w hp
 ·exact Zmo f v w hp
 ·exact Zmp f v w hp
 ·exact Zmq f v w hp
 ·exact ZkU f v w hp h1
 ·exact ZkV f v w hp h2
 ·exact ZkW f v w hp
end
end Go.Proofs.YtmfjmngebldanaaGreatDoor
