/- RO, R7, R9, R10, R11, R12, R13. -/
import Derived.Test.YtpnncoinlopndaaGreatDoorQGSm17
import Derived.Test.YtpnncoinlopndaaGreatDoorQGSm5
import Derived.Laws.Cover1
set_option maxRecDepth 20000
set_option maxHeartbeats 2000000
namespace Go.Proofs.YtpnncoinlopndaaGreatDoor
open Go.Lib renaming hid→hdz
section
open Go.RowKit Go.Shelf
def OfRel(N:Nat)(s m:Value):Prop:=∃(k:Nat) (t:List UInt8),m=.int .i64 k∧(k:Int)≤9223372036854775807∧s=.string ⟨t.toArray⟩∧digs N=digs k++t
theorem ZmO(n:Int)(h0:0<n)(h1:n≤9223372036854775807)(w:World):
 Calls Tryz.prog 94 #[.int .i64 n] w fun e w'=>e=.returned (S (txtL n))∧w=w':=by
 have hne:(n==0)=false:=by simp;omega
 have HT:=hdz (show txtL n=digs n.natAbs by unfold txtL digs;rw[if_neg (by omega),if_neg (by omega),if_neg (by omega)])
 have HL:=hdz (Zhm n.natAbs (by omega))
 have hnn:n=(n.natAbs:Int):=by omega
 generalize n.natAbs=N at*
 have HNN:=hdz hnn;clear hnn
 go_enter Tryz.func94,Tryz.ntmps94
 go_wp2
 go_loop [3,4,5] (fun s m _=>OfRel N s m) (fun _ m _=>(intOf m).toNat)
 case atStart=>exact⟨N,[],by rw[HNN.out],by rw[←HNN.out];omega,rfl,by simp⟩
 case round=>
  obtain⟨k,t,rfl,hk,rfl,hd⟩:=hrel
  have HD:=hdz hd;clear hd
  by_cases hk0:k=0
  ·subst hk0
   go_wp2
   go_ret
   refine⟨?_,rfl⟩
   rw[HT.out,HD.out]
   rfl
  ·have hkb:((k:Int) !=0)=true:=by simp;omega
   have HS:=hdz (ZaN k hk0)
   have htl:t.length≤19:=by have h1:=HL.out;rw[HD.out,List.length_append] at h1;omega
   go_wp2
   all_goals first
    |(exfalso
      have:=Zbr k
      omega)
    |(go_round
      case rel=>
       refine⟨k/10,UInt8.ofNat (48+k%10)::t,by go_num,by omega,?_,?_⟩
       ·rw[Zd0];exact congrArg Value.string (Zb5 [UInt8.ofNat (48+k%10)] t)
       ·rw[HD.out,HS.out,List.append_assoc];rfl
      case measure=>simp[intOf];omega)
end
section
open Go.RowKit Go.Shelf
theorem Zls(w:World):Calls Tryz.prog 94 #[.int .i64 0] w fun e w'=>e=.returned (S (txtL 0))∧w=w':=by
 unfold S
 go_enter Tryz.func94,Tryz.ntmps94
 go_wp2
 go_ret
 exact⟨rfl,rfl⟩
def OfRelN(N:Nat)(s m:Value):Prop:=∃(k:Nat) (t:List UInt8),m=.int .i64 (-(k:Int))∧(k:Int)≤9223372036854775807∧s=.string ⟨t.toArray⟩∧digs N=digs k++t
theorem ZmP(n:Nat)(h0:0<n)(h1:(n:Int)≤9223372036854775807)(w:World):
 Calls Tryz.prog 94 #[.int .i64 (-(n:Int))] w fun e w'=>e=.returned (S (txtL (-(n:Int))))∧w=w':=by
 have hne:(-(n:Int)==0)=false:=by simp;omega
 have hng: -(n:Int)<0:=by omega
 have HT:=hdz (show txtL (-(n:Int))=45::digs n by rw[Zbh,if_pos (by omega),Int.natAbs_neg,Int.natAbs_natCast];rfl)
 have HL:=hdz (Zhm n (by omega))
 unfold S
 go_enter Tryz.func94,Tryz.ntmps94
 go_wp2
 go_loop [3,4,5] (fun s m _=>OfRelN n s m) (fun _ m _=>(-(intOf m)).toNat)
 case atStart=>exact⟨n,[],rfl,h1,rfl,by simp⟩
 case round=>
  obtain⟨k,t,rfl,hk,rfl,hd⟩:=hrel
  have HD:=hdz hd;clear hd
  have htl:t.length≤19:=by have h1:=HL.out;rw[HD.out,List.length_append] at h1;omega
  by_cases hk0:k=0
  ·subst hk0
   have htz:(⟨t.toArray⟩:ByteArray).size≤19:=by rw[Zag];exact htl
   have hz0:(-((0:Nat):Int) !=0)=false:=rfl
   go_wp2
   all_goals first
    |(exfalso;omega)
    |(go_ret
      refine⟨?_,rfl⟩
      rw[HT.out,HD.out]
      exact congrArg (fun b=>Ending.returned (.string b)) (ByteArray.mk_append_mk [45] t))
  ·have hkb:(-(k:Int) !=0)=true:=by simp;omega
   have HS:=hdz (ZaN k hk0)
   have key:(k:Int)%10≤0→(48+ -((k:Int)%10))=48+(k:Int)%10:=fun h=>by omega
   have HKEY:=hdz key;clear key
   go_wp2
   all_goals first
    |(exfalso
      have:=Zbr k
      omega)
    |(exfalso
      have:=Zbr k
      have h2:=HKEY.out (by assumption)
      rw[←h2] at this
      omega)
    |(go_round
      case rel=>
       refine⟨k/10,UInt8.ofNat (48+k%10)::t,by rw[show((k/10:Nat):Int)=(k:Int)/10 by omega],by omega,?_,?_⟩
       ·first
         |(rw[Zd0];exact congrArg Value.string (Zb5 [UInt8.ofNat (48+k%10)] t))
         |(rw[HKEY.out (by assumption),Zd0];exact congrArg Value.string (Zb5 [UInt8.ofNat (48+k%10)] t))
       ·rw[HD.out,HS.out,List.append_assoc];rfl
      case measure=>simp[intOf];omega)
theorem ZfC(n:Int)(h0: -9223372036854775807≤n)(h1:n≤9223372036854775807)(w:World):Calls Tryz.prog 94 #[.int .i64 n] w fun e w'=>e=.returned (S (txtL n))∧w=w':=by
 rcases Int.lt_trichotomy n 0 with h|h|h
 ·have:=ZmP n.natAbs (by omega) (by omega) w
  rwa [show-((n.natAbs:Nat):Int)=n by omega] at this
 ·subst h;exact Zls w
 ·exact ZmO n h h1 w
end
section
open Go.RowKit Go.Shelf
theorem ZiC(k:Nat):∀g:Nat,padN (k+1) g=UInt8.ofNat (48+g/10^k%10)::padN k g:=by
 induction k with
 |zero=>intro g;simp[padN]
 |succ k ih=>
  intro g
  have h1:padN (k+1+1) g=padN (k+1) (g/10)++[UInt8.ofNat (48+g%10)]:=rfl
  have h2:padN (k+1) g=padN k (g/10)++[UInt8.ofNat (48+g%10)]:=rfl
  rw[h1,ih (g/10),h2,List.cons_append,Nat.div_div_eq_div_mul,Nat.pow_succ,Nat.mul_comm 10]
theorem Zlt(k:Nat):∀g:Nat,(padN k g).all isDig=true:=by
 induction k with
 |zero=>intro g;rfl
 |succ k ih=>intro g;rw[padN,List.all_append,ih,List.all_cons,List.all_nil,ZfP (g%10) (by omega)];rfl
theorem ZjZ(k:Nat):∀g:Nat,valD (padN k g)=g%10^k:=by
 induction k with
 |zero=>intro g;simp[padN,valD,Nat.mod_one]
 |succ k ih=>
  intro g
  rw[padN,ZbG,ih]
  have:(UInt8.ofNat (48+g%10)).toNat=48+g%10:=by simp;omega
  rw[this,Nat.pow_succ,Nat.mul_comm (10^k) 10,Nat.mod_mul]
  omega
theorem Ze6(l:List UInt8):valD (l.dropWhile (·==48))=valD l:=by
 induction l with
 |nil=>rfl
 |cons b l ih=>
  rw[List.dropWhile_cons]
  split
  ·rename_i h
   rw[ih]
   have hb:b=48:=by simpa using h
   subst hb
   unfold valD
   rw[List.foldl_cons]
   rfl
  ·rfl
theorem ZiD{t:List UInt8}(h:t.all isDig=true):val t=valD t:=by
 have hp:Lib.hasPrefix t [45]=false:=by
  cases t with
  |nil=>rfl
  |cons b l=>
   rw[Znd]
   have hb:isDig b=true:=by simp at h;exact h.1
   have:=(Zao b).1 hb
   rw[Bool.eq_false_iff]
   intro h2
   have:b=45:=by simpa using h2
   subst this
   simp at*
 have ht:Lib.trimPrefix t [45]=t:=by unfold Lib.trimPrefix;rw[hp];rfl
 unfold val digL
 simp only[ht,h,hp,if_true,Bool.false_and,Bool.false_eq_true,if_false]
 rw[Ze6]
theorem Zj0{t:List UInt8}(h:t.all isDig=true):val (45::t)= -(valD t:Int):=by
 have hp:Lib.hasPrefix (45::t) [45]=true:=by rw[Znd];rfl
 have ht:Lib.trimPrefix (45::t) [45]=t:=by rw[ZmL];rfl
 unfold val digL
 simp only[ht,h,hp,if_true,Bool.true_and]
 have hz:=Ze6 t
 cases he:(t.dropWhile (·==48)).isEmpty with
 |true=>
  have he2:t.dropWhile (·==48)=[]:=by simpa using he
  rw[←hz,he2]
  rfl
 |false=>
  simp only[Bool.not_false,if_true]
  rw[hz]
def WRel(xs:List Nat)(s i:Value):Prop:=∃(k:Nat) (t:List UInt8),i=.int .i64 k∧k≤xs.length∧s=.string ⟨t.toArray⟩∧t.length=9*k∧t.all isDig=true∧valD t=gv (xs.take k)
def WRel2(g:Nat)(t0:List UInt8)(s n k:Value):Prop:=∃(j m:Nat) (t:List UInt8),k=.int .i64 j∧j≤9∧n=.int .i64 m∧m=g/10^j∧s=.string ⟨t.toArray⟩∧t=padN j g++t0
theorem Zcv(neg:Bool)(A:Option Addr)(n c:Nat)(xs:List Nat)(w:World)(hr:Gi w w.heap.size A n xs)(hgs:Gs xs)(hn:n≤1000000):
 Calls Tryz.prog 95 #[.agg #[.bool neg,.slice A n c]] w fun e w'=>e=.returned (S (numT neg (gv xs)))∧Below w.heap.size w w':=by
 have hbA:Below w.heap.size w (w.alloc (.cells #[.bool neg,.slice A n c] 126)):=(Below.refl _ _).alloc (Nat.le_refl _) _
 have HB:=hdz hbA
 have HR:=hdz (hr.here hbA);have HG:=hdz hgs;have HXN:=hdz hr.1
 obtain⟨c0,c1⟩:=(RNumB.new w neg A n c).cells
 clear hr hgs hbA
 unfold S
 go_enter Tryz.func95,Tryz.ntmps95
 go_wp2
 generalize w.alloc _=W at*
 go_loop [3,4] (fun s i=>WRel xs s i) (fun _ i=>n-(intOf i).toNat)
 case atStart=>exact⟨0,[],rfl,Nat.zero_le _,rfl,rfl,rfl,rfl⟩
 case round=>
  obtain⟨k,t,rfl,hk,rfl,htl,htd,htv⟩:=hrel
  rw[←HXN.out] at hk
  have HTL:=hdz htl;have HTD:=hdz htd;have HTV:=hdz htv
  clear htl htd htv
  by_cases hlt:k<n
  ·obtain⟨b,off,g,rfl,hb,hg,d0⟩:=HR.out.gri hlt
   have hg9:=HG.out.at_ hg
   have HGG:=hdz hg;clear hg
   go_wp2
   go_loop [3,5,6] (fun s n k=>WRel2 g t s n k) (fun _ _ k=>9-(intOf k).toNat)
   case atStart=>exact⟨0,g,t,rfl,by omega,rfl,by simp,rfl,rfl⟩
   case round=>
    obtain⟨j,m,t',rfl,hj,rfl,hm,rfl,ht'⟩:=hrel
    have HM:=hdz hm;have HT':=hdz ht'
    have hml:m≤g:=by rw[hm];exact Nat.div_le_self _ _
    have htl':t'.length≤9000009:=by rw[ht',List.length_append,Zhq,HTL.out];omega
    clear hm ht'
    by_cases hj9:j<9
    ·go_wp2
     all_goals first
      |(exfalso
        have:=Zbr m
        omega)
      |(go_round
        case rel=>
         refine⟨j+1,m/10,UInt8.ofNat (48+m%10)::t',by go_num,by omega,by go_num,?_,?_,?_⟩
         ·rw[HM.out,Nat.div_div_eq_div_mul,Nat.pow_succ]
         ·rw[Zd0];exact congrArg Value.string (Zb5 [UInt8.ofNat (48+m%10)] t')
         ·rw[HT'.out,ZiC,HM.out];rfl
        case measure=>simp[intOf];omega)
    ·obtain rfl:j=9:=by omega
     have HNX:=hdz (show WRel xs (.string ⟨t'.toArray⟩) (.int .i64 ((k+1:Nat):Int)) from⟨k+1,t',rfl,by rw[←HXN.out];omega,rfl,by rw[HT'.out,List.length_append,Zhq,HTL.out];omega,by rw[HT'.out,List.all_append,Zlt,HTD.out];rfl,by
      rw[HT'.out,Zbg,ZjZ,HTL.out,HTV.out,Zbf xs k g HGG.out,Nat.mod_eq_of_lt (show g<10^9 by omega),Nat.pow_mul,Nat.add_comm,Nat.mul_comm]⟩)
     go_wp2
     go_round
     case rel=>have:=HNX.out;rwa [show((k+1:Nat):Int)=(k:Int)+1 by omega] at this
     case measure=>simp[intOf];omega
  ·have HV:=hdz (show valD t=gv xs by rw[HTV.out,List.take_of_length_le (by rw[←HXN.out];omega)])
   have htl:t.length≤9000000:=by rw[HTL.out];omega
   have htz:(⟨t.toArray⟩:ByteArray).size≤9000000:=by rw[Zag];exact htl
   cases neg with
   |true=>
    have HC:=hdz (fun W=>Za3 (45::t) W (by simp;omega))
    rw[Zj0 HTD.out,HV.out] at HC
    have HMK:=hdz (ByteArray.mk_append_mk [45] t)
    unfold S at HC
    go_wp2_with fail
    have hmk:((⟨#[45]⟩:ByteArray)++⟨t.toArray⟩)=⟨(45::t).toArray⟩:=HMK.out
    rw[hmk]
    refine(HC.out _).mono ?_
    rintro e w1 ⟨rfl,rfl⟩
    clear hmk
    go_wp2_with fail
    go_ret
    exact⟨rfl,HB.out⟩
   |false=>
    have HC:=hdz (fun W=>Za3 t W (by omega))
    rw[ZiD HTD.out,HV.out] at HC
    unfold S at HC
    go_wp2_with fail
    refine(HC.out _).mono ?_
    rintro e w1 ⟨rfl,rfl⟩
    go_wp2_with fail
    go_ret
    exact⟨rfl,HB.out⟩
end
section
open Go.RowKit Go.Shelf
section
variable {w w':World} {p q:Nat} {neg:Bool} {A:Option Addr} {n c:Nat}
theorem RNumB.set_{neg':Bool}{A':Option Addr}{n' c':Nat}(h:RNumB w p neg A n c):RNumB ((w.setCell ⟨p,0,none⟩ (.bool neg')).setCell ⟨p,1,none⟩ (.slice A' n' c')) p neg' A' n' c':=by
 unfold RNumB at h ⊢
 rw[heap_setCell_same _ p 1 _ 126 _ (heap_setCell_same w p 0 _ 126 _ h)]
 rfl
theorem RNumB.apart{A0:Option Addr}{n0 c0 B:Nat}{xs:List Nat}(h:RNumB w p neg A0 n0 c0)(hg:Gi w B A n xs)(u v:Value):Gi ((w.setCell ⟨p,0,none⟩ u).setCell ⟨p,1,none⟩ v) B A n xs:=by
 refine⟨hg.1,fun hn=> ?_⟩
 obtain⟨b,off,e,hb,hc⟩:=hg.2 hn
 refine⟨b,off,e,hb,fun i x hi j y hj=> ?_⟩
 have hx:=hc i x hi j y hj
 by_cases hbp:b=p
 ·exfalso
  subst hbp
  have hr:=cell_of_row w b (off+i*1+j) _ 126 (0,0) h
  rw[hx] at hr
  have hy:y=.int .i64 x:=by
   rcases j with _|j
   ·simp[G1] at hj;exact hj.symm
   ·simp[G1] at hj
  subst hy
  generalize off+i*1+j=t at hr
  rcases t with _|_|t
  ·simp at hr
  ·simp at hr
  ·simp at hr
 ·rw[←hx]
  exact World.cell?_of_block ((Below.heap_setCell _ ⟨p,1,none⟩ v b (by simpa using hbp)).trans (Below.heap_setCell w ⟨p,0,none⟩ u b (by simpa using hbp)))
end
structure RN3 (w w':World) (nx ny:Bool) (A A':Option Addr) (n m c c':Nat):Prop where
 bl:Below w.heap.size w w'
 x:RNumB w' w.heap.size nx A n c
 y:RNumB w' (w.heap.size+1) ny A' m c'
 z:RNumB w' (w.heap.size+1+1) false none 0 0
section
variable {w w' w'':World} {nx ny:Bool} {A A':Option Addr} {n m c c':Nat}
theorem RN3.here(h:RN3 w w' nx ny A A' n m c c')(hb:Below w'.heap.size w' w''):RN3 w w'' nx ny A A' n m c c':=
 ⟨h.bl.trans (hb.mono h.bl.size),h.x.here hb,h.y.here hb,h.z.here hb⟩
abbrev RNHeld(w w':World)(nx ny:Bool)(A A':Option Addr)(n m c c':Nat):Prop:=
 w'.cell? ⟨w.heap.size,0,none⟩=some (.bool nx)∧w'.cell? ⟨w.heap.size,1,none⟩=some (.slice A n c)∧w'.cell? ⟨w.heap.size+1,0,none⟩=some (.bool ny)∧w'.cell? ⟨w.heap.size+1,1,none⟩=some (.slice A' m c')
theorem RN3.held(h:RN3 w w' nx ny A A' n m c c'):RNHeld w w' nx ny A A' n m c c':=⟨h.x.cells.1,h.x.cells.2,h.y.cells.1,h.y.cells.2⟩
theorem RN3.heldS(h:RN3 w w' nx ny A A' n m c c')(u v:Value):RNHeld w ((w'.setCell ⟨w.heap.size+1+1,0,none⟩ u).setCell ⟨w.heap.size+1+1,1,none⟩ v) nx ny A A' n m c c':=by
 have hx:=(h.x.far (a:=⟨w.heap.size+1+1,0,none⟩) (by simp;omega) u).far (a:=⟨w.heap.size+1+1,1,none⟩) (by simp;omega) v
 have hy:=(h.y.far (a:=⟨w.heap.size+1+1,0,none⟩) (by simp) u).far (a:=⟨w.heap.size+1+1,1,none⟩) (by simp) v
 exact⟨hx.cells.1,hx.cells.2,hy.cells.1,hy.cells.2⟩
theorem RN3.new(w:World)(nx ny:Bool)(A A':Option Addr)(n m c c':Nat):RN3 w (((w.alloc (.cells #[.bool nx,.slice A n c] 126)).alloc (.cells #[.bool ny,.slice A' m c'] 126)).alloc (.cells #[.bool false,.slice none 0 0] 126)) nx ny A A' n m c c':=by
 refine⟨(((Below.refl _ _).alloc (Nat.le_refl _) _).alloc (by simp) _).alloc (by simp;omega) _,((RNumB.new w nx A n c).alloc _).alloc _,?_,?_⟩
 ·have:=(RNumB.new (w.alloc (.cells #[.bool nx,.slice A n c] 126)) ny A' m c').alloc (.cells #[.bool false,.slice none 0 0] 126)
  simpa using this
 ·have:=RNumB.new ((w.alloc (.cells #[.bool nx,.slice A n c] 126)).alloc (.cells #[.bool ny,.slice A' m c'] 126)) false none 0 0
  simpa using this
end
def RAddPost(s:Int)(w:World)(e:Ending)(w':World):Prop:=
 ∃ng A n c xs r,e=.returned (.agg #[.bool ng,.slice A n c])∧Gi w' w'.heap.size A n xs∧n≤c∧Mag xs r∧sv ng r=s∧Below w.heap.size w w'
theorem Zev(nx ny:Bool)(A A':Option Addr)(n m c c':Nat)(xs ys:List Nat)(u v:Nat)(w:World)(hx:Gi w w.heap.size A n xs)(hy:Gi w w.heap.size A' m ys)(mx:Mag xs u)(my:Mag ys v)(hn:n≤1000000)(hm:m≤1000000):
 Calls Tryz.prog 96 #[.agg #[.bool nx,.slice A n c],.agg #[.bool ny,.slice A' m c']] w (RAddPost (sv nx u+sv ny v) w):=by
 have HPO:=hdz (show RAddPost (sv nx u+sv ny v) w=fun e w'=>∃ng A n c xs r,e=.returned (.agg #[.bool ng,.slice A n c])∧Gi w' w'.heap.size A n xs∧n≤c∧Mag xs r∧sv ng r=sv nx u+sv ny v∧Below w.heap.size w w' from rfl)
 generalize RAddPost (sv nx u+sv ny v) w=post at*
 have H3:=hdz (RN3.new w nx ny A A' n m c c')
 have HX:=hdz (hx.here H3.out.bl);have HY:=hdz (hy.here H3.out.bl);have HMX:=hdz mx;have HMY:=hdz my
 obtain⟨p0,p1⟩:=H3.out.x.cells
 obtain⟨q0,q1⟩:=H3.out.y.cells
 clear hx hy mx my
 go_enter Tryz.func96,Tryz.ntmps96
 by_cases hs:nx=ny
 ·subst hs
  have hsb:(nx==nx)=true:=by simp
  go_upto_region 2 with (fail)
  generalize ((w.alloc (.cells #[.bool nx,.slice A n c] 126)).alloc (.cells #[.bool nx,.slice A' m c'] 126)).alloc (.cells #[.bool false,.slice none 0 0] 126)=W0 at*
  have HPL:=hdz (ZjY A A' n m c c' xs ys u v W0.drew HX.out.drew HY.out.drew HMX.out HMY.out hn hm)
  have HSV:=hdz (show sv nx (u+v)=sv nx u+sv nx v by cases nx<;>simp[sv]<;>omega)
  go_region_held3 (fun w'=>RNHeld w w' nx nx A A' n m c c')
   (first
     |exact(H3.out.here hbz).heldS _ _
     |exact(H3.out.here hbz).held
     |exact H3.out.held
     |go_keep)
   (first
     |(go_at_call 141;refine HPL.out.mono ?_;rintro e w1 ⟨A1,n1,c1,zs,rfl,hg1,hc1,mg1,hb1⟩
       have hbz:Below W0.heap.size W0 w1:=(Below.refl _ W0).drew.trans hb1
       have r0:=(H3.out.here hbz).z.cells.1
       have r1:=(H3.out.here hbz).z.cells.2
       have f0:=(H3.out.here hbz).z.frozen 0
       have f1:=(H3.out.here hbz).z.frozen 1
       have HG1:=hdz hg1
       have HM1:=hdz mg1
       clear hg1 mg1 hb1))
  all_goals
   go_wp2_with fail
   refine bodyPost_ret (v:=.agg #[.bool nx,.slice A1 n1 c1]) (by simp[results,Tryz.results96,go_sem,r0,r1]) rfl ?_
   rw[HPO.out]
   have H4:=H3.out.here hbz
   have hW:=H4.z.lt
   refine⟨nx,A1,n1,c1,zs,u+v,rfl,?_,hc1,HM1.out,HSV.out,(H4.bl.setCell (by simp only;omega) _).setCell (by simp only;omega) _⟩
   exact(H4.z.apart HG1.out _ _).more (by simp)
 ·have hsb:(nx==ny)=false:=by cases nx<;>cases ny<;>simp_all
  have HSS:=hdz hs;clear hs
  go_wp2_with fail
  generalize ((w.alloc (.cells #[.bool nx,.slice A n c] 126)).alloc (.cells #[.bool ny,.slice A' m c'] 126)).alloc (.cells #[.bool false,.slice none 0 0] 126)=W at*
  refine(Ze5 A A' n m c c' xs ys u v W HX.out HY.out HMX.out HMY.out hn hm).mono ?_
  rintro e W0 ⟨rfl,hb0⟩
  clear p0 p1 q0 q1
  replace H3:=hdz (H3.out.here hb0)
  replace HX:=hdz (HX.out.here hb0)
  replace HY:=hdz (HY.out.here hb0)
  obtain⟨p0,p1⟩:=H3.out.x.cells
  obtain⟨q0,q1⟩:=H3.out.y.cells
  obtain⟨o,ho⟩:∃o,o=sgnI ((u:Int)-v):=⟨_,rfl⟩
  rw[←ho]
  by_cases huv:v≤u
  ·have hd:decide (o≥0)=true:=by rw[ho,decide_eq_true_eq];unfold sgnI;split<;>first|omega|(split<;>omega)
   have hd2:o≥0:=by simpa using hd
   clear ho
   go_upto_region 4 with (fail)
   have HPL:=hdz (Zdx A A' n m c c' xs ys u v W0.drew HX.out.drew HY.out.drew HMX.out HMY.out hn hm huv)
   have HSV:=hdz (show sv nx (u-v)=sv nx u+sv ny v by have h1:=HSS.out;cases nx<;>cases ny<;>simp_all [sv]<;>omega)
   go_region_held3 (fun w'=>RNHeld w w' nx ny A A' n m c c')
    (first
      |exact(H3.out.here hbz).heldS _ _
      |exact(H3.out.here hbz).held
      |exact H3.out.held
      |go_keep)
    (first
      |(go_at_call 143;refine HPL.out.mono ?_;rintro e w1 ⟨A1,n1,c1,zs,rfl,hg1,hc1,mg1,hb1⟩
        have hbz:Below W0.heap.size W0 w1:=(Below.refl _ W0).drew.trans hb1
        have r0:=(H3.out.here hbz).z.cells.1
        have r1:=(H3.out.here hbz).z.cells.2
        have f0:=(H3.out.here hbz).z.frozen 0
        have f1:=(H3.out.here hbz).z.frozen 1
        have HG1:=hdz hg1
        have HM1:=hdz mg1
        clear hg1 mg1 hb1))
   all_goals
    go_wp2_with fail
    refine bodyPost_ret (v:=.agg #[.bool nx,.slice A1 n1 c1]) (by simp[results,Tryz.results96,go_sem,r0,r1]) rfl ?_
    rw[HPO.out]
    have H4:=H3.out.here hbz
    have hW:=H4.z.lt
    refine⟨nx,A1,n1,c1,zs,u-v,rfl,?_,hc1,HM1.out,HSV.out,(H4.bl.setCell (by simp only;omega) _).setCell (by simp only;omega) _⟩
    exact(H4.z.apart HG1.out _ _).more (by simp)
  ·have hd:decide (o≥0)=false:=by rw[ho,decide_eq_false_iff_not];unfold sgnI;split<;>first|omega|(split<;>omega)
   have hd2:¬o≥0:=by simpa using hd
   clear ho
   go_upto_region 5 with (fail)
   have HPL:=hdz (Zdx A' A m n c' c ys xs v u W0.drew HY.out.drew HX.out.drew HMY.out HMX.out hm hn (by omega))
   have HSV:=hdz (show sv ny (v-u)=sv nx u+sv ny v by have h1:=HSS.out;cases nx<;>cases ny<;>simp_all [sv]<;>omega)
   go_region_held3 (fun w'=>RNHeld w w' nx ny A A' n m c c')
    (first
      |exact(H3.out.here hbz).heldS _ _
      |exact(H3.out.here hbz).held
      |exact H3.out.held
      |go_keep)
    (first
      |(go_at_call 143;refine HPL.out.mono ?_;rintro e w1 ⟨A1,n1,c1,zs,rfl,hg1,hc1,mg1,hb1⟩
        have hbz:Below W0.heap.size W0 w1:=(Below.refl _ W0).drew.trans hb1
        have r0:=(H3.out.here hbz).z.cells.1
        have r1:=(H3.out.here hbz).z.cells.2
        have f0:=(H3.out.here hbz).z.frozen 0
        have f1:=(H3.out.here hbz).z.frozen 1
        have HG1:=hdz hg1
        have HM1:=hdz mg1
        clear hg1 mg1 hb1))
   all_goals
    go_wp2_with fail
    refine bodyPost_ret (v:=.agg #[.bool ny,.slice A1 n1 c1]) (by simp[results,Tryz.results96,go_sem,r0,r1]) rfl ?_
    rw[HPO.out]
    have H4:=H3.out.here hbz
    have hW:=H4.z.lt
    refine⟨ny,A1,n1,c1,zs,v-u,rfl,?_,hc1,HM1.out,HSV.out,(H4.bl.setCell (by simp only;omega) _).setCell (by simp only;omega) _⟩
    exact(H4.z.apart HG1.out _ _).more (by simp)
end
section
open Go.RowKit Go.Shelf
theorem ZaF(a:List UInt8): -100000000000000000<(shortL a).1∧(shortL a).1<100000000000000000∧((shortL a).2=true→(shortL a).1=val a):=by
 unfold shortL
 split
 ·rename_i h
  have h1:=ZaT (ZaU a).1
  have h2:10^(digL a).1.length≤10^17:=Nat.pow_le_pow_right (by omega) h
  have h3:=ZaO a
  refine⟨?_,?_,fun _=>rfl⟩<;>(show _<_;simp only;rw[←h3];unfold sv;split<;>omega)
 ·exact⟨by decide,by decide,fun h=>by simp at h⟩
theorem Zde(a b:List UInt8)(w:World)(ha:a.length≤100000)(hb:b.length≤100000):Calls Tryz.prog 36 #[S a,S b] w (StrPost (txtL (val a+val b)) w):=by
 have HSa:=hdz (ZaA a w (by omega))
 have HSb:=hdz (ZaA b w (by omega))
 have HRa:=hdz (ZbL a w (by omega))
 have HRb:=hdz (fun W=>ZbL b W (by omega))
 obtain⟨K,hK⟩:∃K:Nat,K=100000:=⟨_,rfl⟩
 have HVA:=hdz (Zal (show a.length≤K by omega))
 have HVB:=hdz (Zal (show b.length≤K by omega))
 have HK:=hdz hK;clear hK
 have HS:=hdz (show sv (digL a).2 (valD (digL a).1)+sv (digL b).2 (valD (digL b).1)=val a+val b by rw[ZaO,ZaO])
 have HPO:=hdz (show StrPost (txtL (val a+val b)) w=fun e w'=>e=.returned (S (txtL (val a+val b)))∧Below w.heap.size w w' from rfl)
 obtain⟨la,ua,ea⟩:=ZaF a
 obtain⟨lb,ub,eb⟩:=ZaF b
 have HEA:=hdz ea;have HEB:=hdz eb;clear ea eb
 unfold RReadPost at HRa HRb
 generalize StrPost (txtL (val a+val b)) w=post at*
 generalize (digL a).2=na at*
 generalize (digL b).2=nb at*
 generalize valD (digL a).1=u at*
 generalize valD (digL b).1=v at*
 generalize (shortL a).1=m at*
 generalize (shortL b).1=n at*
 generalize (shortL a).2=ka at*
 generalize (shortL b).2=kb at*
 clear ha hb
 unfold S at*
 go_enter Tryz.func36,Tryz.ntmps36
 go_wp2_with fail
 refine HSa.out.mono ?_
 rintro e w1 ⟨rfl,rfl⟩
 go_wp2_with fail
 refine HSb.out.mono ?_
 rintro e w1 ⟨rfl,rfl⟩
 by_cases hk:ka=true∧kb=true
 ·obtain⟨rfl,rfl⟩:=hk
  have HOF:=hdz (ZfC (m+n) (by omega) (by omega) w)
  rw[HEA.out rfl,HEB.out rfl] at HOF
  have hmv:=HEA.out rfl;have hnv:=HEB.out rfl
  have HM:=hdz hmv;have HN:=hdz hnv
  clear hmv hnv
  rw[←HM.out,←HN.out] at HOF
  rw[←HM.out,←HN.out] at HPO
  unfold S at HOF
  clear HM HN HRa HRb HS HVA HVB HEA HEB
  go_wp2_with fail
  refine HOF.out.mono ?_
  rintro e w1 ⟨rfl,rfl⟩
  go_wp2_with fail
  rw[HPO.out]
  exact⟨rfl,Below.refl _ _⟩
 ·have hkk:(if ka=true then kb else false)=false:=by cases ka<;>cases kb<;>simp_all
  clear HEA HEB HSa HSb la ua lb ub
  have hcase:ka=false∨(ka=true∧kb=false):=by cases ka<;>cases kb<;>simp_all
  clear hkk hk
  rcases hcase with rfl|⟨rfl,rfl⟩
  all_goals
   go_wp2_with fail
   refine HRa.out.mono ?_
   rintro e w1 ⟨A1,n1,c1,xs,rfl,ho1,hc1,mg1,hb1⟩
   have HO1:=hdz ho1;have HM1:=hdz mg1;clear ho1 mg1 HRa
   go_wp2_with fail
   refine(HRb.out _).mono ?_
   rintro e w2 ⟨A2,n2,c2,ys,rfl,ho2,hc2,mg2,hb2⟩
   have HX1:=hdz (HO1.out.here hb2)
   have HX2:=hdz ho2;have HM2:=hdz mg2;clear ho2 mg2 HRb
   have HL1:=hdz (show n1≤K by rw[HX1.out.1];exact HM1.out.len HVA.out)
   have HL2:=hdz (show n2≤K by rw[HX2.out.1];exact HM2.out.len HVB.out)
   have hb02:=hb1.trans (hb2.mono hb1.size)
   go_wp2_with fail
   refine(Zev na nb A1 A2 n1 n2 c1 c2 xs ys u v w2 HX1.out HX2.out HM1.out HM2.out (by have:=HL1.out;have:=HK.out;omega) (by have:=HL2.out;have:=HK.out;omega)).mono ?_
   rintro e w3 ⟨ng,A3,n3,c3,zs,r,rfl,ho3,hc3,mg3,hsv,hb3⟩
   have HX3:=hdz ho3
   have HL3:=hdz (show n3≤K+1 by rw[HX3.out.1];exact mg3.len (Zmm hsv HVA.out HVB.out))
   have HM3:=hdz mg3;have HSV:=hdz hsv
   have hb03:=hb02.trans (hb3.mono hb02.size)
   clear ho3 mg3 hsv
   have HTX:=hdz (Zcv ng A3 n3 c3 zs w3 HX3.out HM3.out.gs (by have:=HL3.out;have:=HK.out;omega))
   rw[HM3.out.val,Zbj,HSV.out,HS.out] at HTX
   unfold S at HTX
   go_wp2_with fail
   refine HTX.out.mono ?_
   rintro e w4 ⟨rfl,hb4⟩
   go_wp2_with fail
   rw[HPO.out]
   exact⟨rfl,hb03.trans (hb4.mono hb03.size)⟩
end
section
open Go.RowKit Go.Shelf
theorem Zj1{m n:Int}(h1: -1000000000<m)(h2:m<1000000000)(h3: -1000000000<n)(h4:n<1000000000): -1000000000000000000≤m*n∧m*n≤1000000000000000000:=by
 have h:(m*n).natAbs≤1000000000*1000000000:=by
  rw[Int.natAbs_mul]
  exact Nat.mul_le_mul (by omega) (by omega)
 omega
theorem ZaY(a b:List UInt8)(w:World)(ha:a.length≤100000)(hb:b.length≤100000):Calls Tryz.prog 90 #[S a,S b] w (StrPost (txtL (val a*val b)) w):=by
 have HSa:=hdz (ZaA a w (by omega))
 have HSb:=hdz (ZaA b w (by omega))
 have HRa:=hdz (ZbL a w (by omega))
 have HRb:=hdz (fun W=>ZbL b W (by omega))
 obtain⟨K,hK⟩:∃K:Nat,K=100000:=⟨_,rfl⟩
 have hva:=Zal (show a.length≤K by omega)
 have hvb:=Zal (show b.length≤K by omega)
 have HK:=hdz hK;clear hK
 have HS:=hdz (show sv ((digL a).2 !=(digL b).2) (valD (digL a).1*valD (digL b).1)=val a*val b by rw[ZlZ,ZaO,ZaO])
 have HPO:=hdz (show StrPost (txtL (val a*val b)) w=fun e w'=>e=.returned (S (txtL (val a*val b)))∧Below w.heap.size w w' from rfl)
 obtain⟨la,ua,ea⟩:=ZaF a
 obtain⟨lb,ub,eb⟩:=ZaF b
 have HEA:=hdz ea;have HEB:=hdz eb;clear ea eb
 unfold RReadPost at HRa HRb
 generalize StrPost (txtL (val a*val b)) w=post at*
 generalize (digL a).2=na at*
 generalize (digL b).2=nb at*
 generalize valD (digL a).1=u at*
 generalize valD (digL b).1=v at*
 generalize (shortL a).1=m at*
 generalize (shortL b).1=n at*
 generalize (shortL a).2=ka at*
 generalize (shortL b).2=kb at*
 have HVA:=hdz hva;have HVB:=hdz hvb
 have HUV:=hdz (show u*v<1000000000^(K+K) by rw[Nat.pow_add];exact Nat.mul_lt_mul'' hva hvb)
 clear ha hb hva hvb
 unfold S at*
 go_enter Tryz.func90,Tryz.ntmps90
 go_wp2_with fail
 refine HSa.out.mono ?_
 rintro e w1 ⟨rfl,rfl⟩
 go_wp2_with fail
 refine HSb.out.mono ?_
 rintro e w1 ⟨rfl,rfl⟩
 by_cases hk:ka=true∧kb=true∧m<1000000000∧m> -1000000000∧n<1000000000∧n> -1000000000
 ·obtain⟨rfl,rfl,h1,h2,h3,h4⟩:=hk
  obtain⟨p,hp⟩:∃p,m*n=p:=⟨_,rfl⟩
  have hpb:=Zj1 h2 h1 h4 h3
  rw[hp] at hpb
  obtain⟨hp1,hp2⟩:=hpb
  have HOF:=hdz (ZfC p (by omega) (by omega) w)
  rw[←HEA.out rfl,←HEB.out rfl,hp] at HPO
  unfold S at HOF
  clear HRa HRb HS HVA HVB HUV HEA HEB
  have e1:decide (m<1000000000)=true:=by simpa using h1
  have e2:decide (m> -1000000000)=true:=by simpa using h2
  have e3:decide (n<1000000000)=true:=by simpa using h3
  have e4:decide (n> -1000000000)=true:=by simpa using h4
  go_wp2_with fail
  refine HOF.out.mono ?_
  rintro e w1 ⟨rfl,rfl⟩
  go_wp2_with fail
  rw[HPO.out]
  exact⟨rfl,Below.refl _ _⟩
 ·have hcase:ka=false∨(ka=true∧kb=false)∨(ka=true∧kb=true∧¬m<1000000000)∨(ka=true∧kb=true∧m<1000000000∧¬m> -1000000000)∨(ka=true∧kb=true∧m<1000000000∧m> -1000000000∧¬n<1000000000)∨(ka=true∧kb=true∧m<1000000000∧m> -1000000000∧n<1000000000∧¬n> -1000000000):=by
   cases ka<;>cases kb<;>simp at hk ⊢ <;>omega
  clear HEA HEB HSa HSb la ua lb ub hk
  rcases hcase with rfl|⟨rfl,rfl⟩|⟨rfl,rfl,h1⟩|⟨rfl,rfl,h1,h2⟩|⟨rfl,rfl,h1,h2,h3⟩|⟨rfl,rfl,h1,h2,h3,h4⟩
  all_goals
   go_wp2_with fail
   refine HRa.out.mono ?_
   rintro e w1 ⟨A1,n1,c1,xs,rfl,ho1,hc1,mg1,hb1⟩
   have HO1:=hdz ho1;have HM1:=hdz mg1;clear ho1 mg1 HRa
   go_wp2_with fail
   refine(HRb.out _).mono ?_
   rintro e w2 ⟨A2,n2,c2,ys,rfl,ho2,hc2,mg2,hb2⟩
   have HX1:=hdz (HO1.out.here hb2)
   have HX2:=hdz ho2;have HM2:=hdz mg2;clear ho2 mg2 HRb
   have HL1:=hdz (show n1≤K by rw[HX1.out.1];exact HM1.out.len HVA.out)
   have HL2:=hdz (show n2≤K by rw[HX2.out.1];exact HM2.out.len HVB.out)
   have hb02:=hb1.trans (hb2.mono hb1.size)
   go_wp2_with fail
   have hN1:RNumB ((w2.alloc (.cells #[.bool na,.slice A1 n1 c1] 126)).alloc (.cells #[.bool nb,.slice A2 n2 c2] 126)) w2.heap.size na A1 n1 c1:=(RNumB.new w2 na A1 n1 c1).alloc _
   have hN2:RNumB ((w2.alloc (.cells #[.bool na,.slice A1 n1 c1] 126)).alloc (.cells #[.bool nb,.slice A2 n2 c2] 126)) (w2.heap.size+1) nb A2 n2 c2:=by
    have:=RNumB.new (w2.alloc (.cells #[.bool na,.slice A1 n1 c1] 126)) nb A2 n2 c2
    simpa using this
   have hbA:Below w2.heap.size w2 ((w2.alloc (.cells #[.bool na,.slice A1 n1 c1] 126)).alloc (.cells #[.bool nb,.slice A2 n2 c2] 126)):=((Below.refl _ _).alloc (Nat.le_refl _) _).alloc (by simp) _
   have HX1':=hdz (HX1.out.here hbA);have HX2':=hdz (HX2.out.here hbA)
   have hb0A:=hb02.trans (hbA.mono hb02.size)
   obtain⟨x0,x1⟩:=hN1.cells
   obtain⟨y0,y1⟩:=hN2.cells
   have HN1:=hdz hN1;have HN2:=hdz hN2
   clear hN1 hN2 hbA HX1 HX2 HO1
   generalize (w2.alloc (.cells #[.bool na,.slice A1 n1 c1] 126)).alloc (.cells #[.bool nb,.slice A2 n2 c2] 126)=W at*
   have HTM:=hdz (Zdw A1 A2 n1 n2 c1 c2 xs ys u v W.drew HX1'.out.drew HX2'.out.drew HM1.out HM2.out (by have:=HL1.out;have:=HK.out;omega) (by have:=HL2.out;have:=HK.out;omega))
   go_region_held3 (fun w'=>w'.cell? ⟨w2.heap.size,0,none⟩=some (.bool na)∧w'.cell? ⟨w2.heap.size,1,none⟩=some (.slice A1 n1 c1)∧w'.cell? ⟨w2.heap.size+1,0,none⟩=some (.bool nb)∧w'.cell? ⟨w2.heap.size+1,1,none⟩=some (.slice A2 n2 c2))
    (first
      |exact⟨x0,x1,y0,y1⟩
      |exact⟨(HN1.out.here hbz).cells.1,(HN1.out.here hbz).cells.2,(HN2.out.here hbz).cells.1,(HN2.out.here hbz).cells.2⟩
      |exact⟨(HN1.out.here hbz4).cells.1,(HN1.out.here hbz4).cells.2,(HN2.out.here hbz4).cells.1,(HN2.out.here hbz4).cells.2⟩)
    (first
    |(go_at_call 139;refine HTM.out.mono ?_;rintro e w3 ⟨A3,n3,c3,zs,rfl,ho3,hc3,mg3,hb3⟩
      have hbz:Below W.heap.size W w3:=(Below.refl _ W).drew.trans hb3
      have HX3:=hdz ho3
      have HL3:=hdz (show n3≤K+K by rw[HX3.out.1];exact mg3.len HUV.out)
      have hb03:=hb0A.trans (hbz.mono hb0A.size)
      have HTX:=hdz (Zcv (na !=nb) A3 n3 c3 zs w3 HX3.out mg3.gs (by have:=HL3.out;have:=HK.out;omega))
      rw[mg3.val,Zbj,HS.out] at HTX
      unfold S at HTX
      clear ho3 mg3 hb3)
    |(go_at_call 95;refine HTX.out.mono ?_;rintro e w4 ⟨rfl,hb4⟩;have hbz4:=hbz.trans (hb4.mono hbz.size)))
  all_goals
   go_wp2_with fail
   rw[HPO.out]
   exact⟨rfl,hb03.trans (hb4.mono hb03.size)⟩
end
section
open Go.RowKit Go.Shelf
theorem Zgm(s:List UInt8):(⟨s.toArray⟩:ByteArray).toList=s:=by rw[Lib.toList_data]
theorem Zlu(b:UInt8):valD [b]=b.toNat-48:=by simp[valD]
theorem ZbM(b:UInt8)(l:List UInt8):valD (b::l)=(b.toNat-48)*10^l.length+valD l:=by
 rw[show b::l=[b]++l from rfl,Zbg,Zlu]
theorem Zdy{s t:List UInt8}(hs:s.all isDig=true)(ht:t.all isDig=true)(hz:∀b l,t=b::l→(b==48)=false)(h:s.length<t.length):valD s<valD t:=by
 cases t with
 |nil=>simp at h
 |cons b l=>
  have h1:=ZaT hs
  have hb:isDig b=true:=by simp at ht;exact ht.1
  have h2:=(Zao b).1 hb
  have h3:b≠48:=by have:=hz b l rfl;simpa using this
  have h4:b.toNat≠48:=fun h=>h3 (by rw[←UInt8.toNat_inj];exact h)
  have h5:10^s.length≤10^l.length:=Nat.pow_le_pow_right (by omega) (by simp at h;omega)
  rw[ZbM]
  have h6:1*10^l.length≤(b.toNat-48)*10^l.length:=Nat.mul_le_mul_right _ (by omega)
  omega
theorem ZfD{P x y b c:Nat}(hx:x<P)(hy:y<P):(b*P+x<c*P+y↔b<c∨(b=c∧x<y)):=by
 rcases Nat.lt_trichotomy b c with h|h|h
 ·have:(b+1)*P≤c*P:=Nat.mul_le_mul_right _ h
  rw[Nat.add_mul] at this
  constructor
  ·intro _;exact .inl h
  ·intro _;omega
 ·subst h;constructor
  ·intro h2;exact .inr ⟨rfl,by omega⟩
  ·rintro(h2|h2)<;>omega
 ·have:(c+1)*P≤b*P:=Nat.mul_le_mul_right _ h
  rw[Nat.add_mul] at this
  constructor
  ·intro h2;omega
  ·rintro(h2|h2)<;>omega
theorem Zdf:∀(s t:List UInt8),s.all isDig=true→t.all isDig=true→s.length=t.length→Op.bytesLess s t=decide (valD s<valD t)
 |[],[],_,_,_=>by simp[Op.bytesLess]
 |_::_,[],_,_,h=>by simp at h
 |[],_::_,_,_,h=>by simp at h
 |b::s,c::t,hs,ht,h=>by
  simp only[List.all_cons,Bool.and_eq_true] at hs ht
  have hl:s.length=t.length:=by simpa using h
  have ih:=Zdf s t hs.2 ht.2 hl
  rw[Op.bytesLess,ih,ZbM,ZbM,hl]
  have h1:=(Zao b).1 hs.1
  have h2:=(Zao c).1 ht.1
  have h3:=ZaT hs.2
  have h4:=ZaT ht.2
  rw[hl] at h3
  rw[Bool.eq_iff_iff]
  simp only[Bool.or_eq_true,Bool.and_eq_true,decide_eq_true_eq,beq_iff_eq]
  rw[ZfD h3 h4,UInt8.lt_iff_toNat_lt,←UInt8.toNat_inj]
  omega
theorem Zlv{P x y b c:Nat}(hx:x<P)(hy:y<P)(h:b*P+x=c*P+y):b=c∧x=y:=by
 have h1:=ZfD (b:=b) (c:=c) hx hy
 have h2:=ZfD (b:=c) (c:=b) hy hx
 omega
theorem ZhQ:∀(s t:List UInt8),s.all isDig=true→t.all isDig=true→s.length=t.length→valD s=valD t→s=t
 |[],[],_,_,_,_=>rfl
 |_::_,[],_,_,h,_=>by simp at h
 |[],_::_,_,_,h,_=>by simp at h
 |b::s,c::t,hs,ht,h,hv=>by
  simp only[List.all_cons,Bool.and_eq_true] at hs ht
  have hl:s.length=t.length:=by simpa using h
  rw[ZbM,ZbM,hl] at hv
  have h1:=(Zao b).1 hs.1
  have h2:=(Zao c).1 ht.1
  have h3:=ZaT hs.2
  have h4:=ZaT ht.2
  rw[hl] at h3
  obtain⟨e1,e2⟩:=Zlv h3 h4 hv
  have:b=c:=by rw[←UInt8.toNat_inj];omega
  rw[this,ZhQ s t hs.2 ht.2 hl e2]
theorem Zau(a b:List UInt8)(w:World)(ha:a.length≤100000000)(hb:b.length≤100000000):Calls Tryz.prog 62 #[S a,S b] w fun e w'=>e=.returned (.int .i64 (sgnI (val a-val b)))∧w=w':=by
 have HDa:=hdz (Zax a w (by omega))
 have HDb:=hdz (Zax b w (by omega))
 have hla:=ZaH a;have hlb:=ZaH b
 have HS:=hdz (fun(r:Int)=>Zl0 (r:=r) (ZaO a).symm (ZaO b).symm (Zhw a) (Zhw b))
 obtain⟨hda,hza,_⟩:=ZaU a
 obtain⟨hdb,hzb,_⟩:=ZaU b
 have HLT:=hdz (fun h=>Zdy hda hdb hzb h)
 have HGT:=hdz (fun h=>Zdy hdb hda hza h)
 have HBL:=hdz (Zdf _ _ hda hdb)
 have HIN:=hdz (ZhQ _ _ hda hdb)
 have HIN2:=hdz (show(digL a).1=(digL b).1→valD (digL a).1=valD (digL b).1 from fun h=>by rw[h])
 clear hda hza hdb hzb
 generalize sgnI (val a-val b)=res at*
 generalize (digL a).2=na at*
 generalize (digL b).2=nb at*
 generalize (digL a).1=s at*
 generalize (digL b).1=t at*
 generalize valD s=u at*
 generalize valD t=v at*
 have hsa:(⟨s.toArray⟩:ByteArray).size=s.length:=Zag s
 have hsb:(⟨t.toArray⟩:ByteArray).size=t.length:=Zag t
 unfold S at*
 have hl1:s.length≤100000000:=by omega
 have hl2:t.length≤100000000:=by omega
 clear ha hb hla hlb
 go_enter Tryz.func62,Tryz.ntmps62
 go_wp2_with fail
 refine HDa.out.mono ?_
 rintro e w1 ⟨rfl,rfl⟩
 go_wp2_with fail
 refine HDb.out.mono ?_
 rintro e w1 ⟨rfl,rfl⟩
 clear HDa HDb
 rcases Nat.lt_trichotomy s.length t.length with hl|hl|hl
 ·have HV:=hdz (HLT.out hl)
  have HC:=hdz (HS.out (-1) ⟨fun _=>HV.out,fun _=>by omega⟩ ⟨fun h=>by omega,fun h=>by have:=HV.out;omega⟩)
  clear HS HLT HGT HBL HIN HIN2 HV
  obtain⟨k1,k2,k3,k4⟩:=HC.out
  clear HC
  have HRES:=hdz (show res=(if na then(if nb then 1 else-1) else(if nb then 1 else-1)) by cases na<;>cases nb<;>first|(rw[k1 ⟨rfl,rfl⟩];rfl)|(rw[k2 ⟨rfl,rfl⟩];rfl)|(rw[k3 ⟨rfl,rfl⟩];rfl)|(rw[k4 ⟨rfl,rfl⟩];rfl))
  clear k1 k2 k3 k4
  cases na<;>cases nb
  all_goals
   go_wp2_with fail
   first|go_ret|skip
   rw[HRES.out]
   exact⟨rfl,rfl⟩
 ·have HSA:=hdz (Zgm s);have HSB:=hdz (Zgm t)
  have HB:=hdz (HBL.out hl)
  rcases Nat.lt_trichotomy u v with hv|hv|hv
  ·have HV:=hdz hv
   have HC:=hdz (HS.out (-1) ⟨fun _=>HV.out,fun _=>by omega⟩ ⟨fun h=>by omega,fun h=>by have:=HV.out;omega⟩)
   have hlt:Op.bytesLess s t=true:=by rw[HB.out];simpa using hv
   have hlt2:Op.bytesLess (⟨s.toArray⟩:ByteArray).toList (⟨t.toArray⟩:ByteArray).toList=true:=by rw[HSA.out,HSB.out];exact hlt
   clear HB HSA HSB hv
   clear HS HLT HGT HBL HIN HIN2 HV
   obtain⟨k1,k2,k3,k4⟩:=HC.out
   clear HC
   have HRES:=hdz (show res=(if na then(if nb then 1 else-1) else(if nb then 1 else-1)) by cases na<;>cases nb<;>first|(rw[k1 ⟨rfl,rfl⟩];rfl)|(rw[k2 ⟨rfl,rfl⟩];rfl)|(rw[k3 ⟨rfl,rfl⟩];rfl)|(rw[k4 ⟨rfl,rfl⟩];rfl))
   clear k1 k2 k3 k4
   cases na<;>cases nb
   all_goals
    go_wp2_with fail
    first|go_ret|skip
    rw[HRES.out]
    exact⟨rfl,rfl⟩
  ·have HV:=hdz hv
   have HC:=hdz (HS.out 0 ⟨fun _=>by omega,fun _=>by omega⟩ ⟨fun h=>by omega,fun h=>by have:=HV.out;omega⟩)
   have hst:=HIN.out hl hv
   have hlt:Op.bytesLess s t=false:=by rw[HB.out];simp;omega
   have hlt2:Op.bytesLess (⟨s.toArray⟩:ByteArray).toList (⟨t.toArray⟩:ByteArray).toList=false:=by rw[HSA.out,HSB.out];exact hlt
   subst hst
   clear HB HSA HSB hv
   clear HS HLT HGT HBL HIN HIN2 HV
   obtain⟨k1,k2,k3,k4⟩:=HC.out
   clear HC
   have HRES:=hdz (show res=(if na then(if nb then 0 else-1) else(if nb then 1 else 0)) by cases na<;>cases nb<;>first|(rw[k1 ⟨rfl,rfl⟩];rfl)|(rw[k2 ⟨rfl,rfl⟩];rfl)|(rw[k3 ⟨rfl,rfl⟩];rfl)|(rw[k4 ⟨rfl,rfl⟩];rfl))
   clear k1 k2 k3 k4
   cases na<;>cases nb
   all_goals
    go_wp2_with fail
    first|go_ret|skip
    rw[HRES.out]
    exact⟨rfl,rfl⟩
  ·have HV:=hdz hv
   have HC:=hdz (HS.out 1 ⟨fun _=>by omega,fun _=>by omega⟩ ⟨fun h=>HV.out,fun h=>by omega⟩)
   have hlt:Op.bytesLess s t=false:=by rw[HB.out];simp;omega
   have hlt2:Op.bytesLess (⟨s.toArray⟩:ByteArray).toList (⟨t.toArray⟩:ByteArray).toList=false:=by rw[HSA.out,HSB.out];exact hlt
   have hne:(s==t)=false:=by
    rw[Bool.eq_false_iff];intro h
    have:=HIN2.out (by simpa using h)
    omega
   have hne2:((⟨s.toArray⟩:ByteArray).toList==(⟨t.toArray⟩:ByteArray).toList)=false:=by rw[HSA.out,HSB.out];exact hne
   clear HB HSA HSB hv
   clear HS HLT HGT HBL HIN HIN2 HV
   obtain⟨k1,k2,k3,k4⟩:=HC.out
   clear HC
   have HRES:=hdz (show res=(if na then(if nb then-1 else-1) else(if nb then 1 else 1)) by cases na<;>cases nb<;>first|(rw[k1 ⟨rfl,rfl⟩];rfl)|(rw[k2 ⟨rfl,rfl⟩];rfl)|(rw[k3 ⟨rfl,rfl⟩];rfl)|(rw[k4 ⟨rfl,rfl⟩];rfl))
   clear k1 k2 k3 k4
   cases na<;>cases nb
   all_goals
    go_wp2_with fail
    first|go_ret|skip
    rw[HRES.out]
    exact⟨rfl,rfl⟩
 ·have HV:=hdz (HGT.out hl)
  have HC:=hdz (HS.out 1 ⟨fun h=>by omega,fun h=>by have:=HV.out;omega⟩ ⟨fun _=>HV.out,fun _=>by omega⟩)
  clear HS HLT HGT HBL HIN HIN2 HV
  obtain⟨k1,k2,k3,k4⟩:=HC.out
  clear HC
  have HRES:=hdz (show res=(if na then(if nb then-1 else-1) else(if nb then 1 else 1)) by cases na<;>cases nb<;>first|(rw[k1 ⟨rfl,rfl⟩];rfl)|(rw[k2 ⟨rfl,rfl⟩];rfl)|(rw[k3 ⟨rfl,rfl⟩];rfl)|(rw[k4 ⟨rfl,rfl⟩];rfl))
  clear k1 k2 k3 k4
  cases na<;>cases nb
  all_goals
   go_wp2_with fail
   first|go_ret|skip
   rw[HRES.out]
   exact⟨rfl,rfl⟩
end
end Go.Proofs.YtpnncoinlopndaaGreatDoor
