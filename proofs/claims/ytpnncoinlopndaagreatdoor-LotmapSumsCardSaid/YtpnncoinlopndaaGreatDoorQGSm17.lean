/- R2, R3, R4, R5, R6, R8. -/
import Derived.Test.YtpnncoinlopndaaGreatDoorQGSm4
import Derived.Test.YtpnncoinlopndaaGreatDoorQGSm16
set_option maxRecDepth 100000
set_option maxHeartbeats 2000000
namespace Go.Proofs.YtpnncoinlopndaaGreatDoor
open Go.Lib renaming hid→hdz
section
open Go.RowKit Go.Shelf
def G1(x:Nat):List Value:=[.int .i64 x]
theorem Zav(x:Nat):(G1 x).length=1:=rfl
theorem Zgl(x:Nat):∀u∈G1 x,u.oneCell'=true:=by simp[G1,Value.oneCell']
abbrev Gi(w:World)(B:Nat)(A:Option Addr)(n:Nat)(xs:List Nat):Prop:=Sl G1 1 w B A n xs
theorem Sl.gri{w:World}{B:Nat}{A:Option Addr}{n:Nat}{xs:List Nat}{i:Nat}(h:Gi w B A n xs)(hi:i<n):
 ∃b off x,A=some ⟨b,off,none⟩∧b<B∧xs[i]?=some x∧w.cell? ⟨b,off+i,none⟩=some (.int .i64 x):=by
 obtain⟨b,off,x,hA,hb,hx,hc⟩:=h.at_ hi
 exact⟨b,off,x,hA,hb,hx,by have:=hc 0 _ rfl;simpa using this⟩
theorem Zdd:ElemT Tryz.prog 124 3 1 8:=ZbP Tryz.underlying124 (by kernel_rfl) (by decide) (by decide)
theorem Zch(A:Option Addr)(n c:Nat)(xs:List Nat)(w:World)(hr:Gi w w.heap.size A n xs)(hc:n≤c)(hn:n≤1000000000):
 Calls Tryz.prog 182 #[.slice A n c] w (CutPost A n c xs w):=by
 have HXN:=hdz hr.1
 have HR:=hdz hr;clear hr
 go_enter Tryz.func182,Tryz.ntmps182
 go_wp2
 go_loop [0] (fun v=>∃j:Nat,v=.slice A j c∧j≤n∧Hid (gv (xs.take j)=gv xs)) (fun v=>match v with| .slice _ j _=>j|_=>0)
 case atStart=>exact⟨n,rfl,Nat.le_refl _,by show _=_;rw[List.take_of_length_le (by rw[←HXN.out];omega)]⟩
 case round=>
  obtain⟨j,rfl,hj,HG⟩:=hrel
  by_cases h0:j=0
  ·subst h0
   go_wp2
   go_ret
   exact⟨0,rfl,Nat.zero_le _,HG.out,by unfold Nz;simp,rfl⟩
  ·obtain⟨j',rfl⟩:∃j',j=j'+1:=⟨j-1,by omega⟩
   obtain⟨b,off,x,rfl,hb,hx,d0⟩:=HR.out.gri (i:=j') (by omega)
   have HX:=hdz hx;clear hx
   have hj1:0≤(j':Int):=by omega
   have hj2:j'≤c:=by omega
   by_cases hx0:x=0
   ·have hxb:((x:Int)==0)=true:=by simp[hx0]
    have HG2:=hdz (show gv (xs.take j')=gv xs by rw[←HG.out,Zbf xs j' x HX.out,hx0];simp)
    clear hx0
    go_wp2
    go_round
    case rel=>exact⟨j',rfl,by omega,HG2⟩
    case measure=>simp
   ·have hxb:((x:Int)==0)=false:=by simp;omega
    have HZ:=hdz (ZiW HX.out hx0)
    clear hx0
    go_wp2
    go_ret
    exact⟨j'+1,rfl,hj,HG.out,HZ.out,rfl⟩
theorem Zcu(A:Option Addr)(n c:Nat)(xs:List Nat)(i:Nat)(w:World)(hr:Gi w w.heap.size A n xs)(_hn:n≤1000000000)(_hi:i≤1000000000):
 Calls Tryz.prog 181 #[.slice A n c,.int .i64 i] w fun e w'=>e=.returned (.int .i64 (gAt xs i))∧w=w':=by
 by_cases h:i<n
 ·obtain⟨b,off,x,rfl,hb,hx,d0⟩:=hr.gri h
  have HG:=hdz (show gAt xs i=x by unfold gAt;simp[List.getD,hx])
  clear hx hr
  go_enter Tryz.func181,Tryz.ntmps181
  go_wp2
  go_ret
  rw[HG.out]
  exact⟨rfl,rfl⟩
 ·have HG:=hdz (show gAt xs i=0 by unfold gAt;simp[List.getD];rw[List.getElem?_eq_none (by rw[←hr.1];omega)];rfl)
  have hd:decide (i<n)=false:=by simpa using h
  clear hr h
  go_enter Tryz.func181,Tryz.ntmps181
  go_wp2
  go_ret
  rw[HG.out]
  exact⟨rfl,rfl⟩
def OrdPost(u v:Nat)(w:World)(e:Ending)(w':World):Prop:=e=.returned (.int .i64 (sgnI ((u:Int)-v)))∧Below w.heap.size w w'
theorem Zma{u v:Nat}(h:u<v):sgnI ((u:Int)-v)= -1:=by unfold sgnI;rw[if_pos (by omega)]
theorem Zmb{u v:Nat}(h:v<u):sgnI ((u:Int)-v)=1:=by unfold sgnI;rw[if_neg (by omega),if_pos (by omega)]
theorem Znt{u v:Nat}(h:u=v):sgnI ((u:Int)-v)=0:=by unfold sgnI;rw[if_neg (by omega),if_neg (by omega)]
theorem Ze5(A A':Option Addr)(n m c c':Nat)(xs ys:List Nat)(u v:Nat)(w:World)(hx:Gi w w.heap.size A n xs)(hy:Gi w w.heap.size A' m ys)(mx:Mag xs u)(my:Mag ys v)(hn:n≤1000000)(hm:m≤1000000):
 Calls Tryz.prog 142 #[.slice A n c,.slice A' m c'] w (OrdPost u v w):=by
 have HXN:=hdz hx.1;have HYN:=hdz hy.1
 have HX:=hdz hx;have HY:=hdz hy;have HMX:=hdz mx;have HMY:=hdz my
 have HPO:=hdz (show OrdPost u v w=fun e w'=>e=.returned (.int .i64 (sgnI ((u:Int)-v)))∧Below w.heap.size w w' from rfl)
 generalize OrdPost u v w=post at*
 clear hx hy mx my
 by_cases hnm:n=m
 ·obtain rfl:n=m:=hnm
  have hne:((n:Int) !=(n:Int))=false:=by simp
  go_enter Tryz.func142,Tryz.ntmps142
  go_wp2
  go_loopw [5] (fun i wr=>∃(k:Nat) (ii:Int),i=.int .i64 ii∧Hid (ii=(k:Int)-1)∧k≤n∧Hid (xs.drop k=ys.drop k)∧Below w.heap.size w wr) (fun i _=>(intOf i+1).toNat)
  case atStart=>exact⟨n,_,rfl,by show _=_;rfl,Nat.le_refl _,by show _=_;rw[List.drop_of_length_le (by rw[←HXN.out];omega),List.drop_of_length_le (by rw[←HYN.out];omega)],Below.refl _ _⟩
  case round=>
   obtain⟨k,ii,rfl,HII,hk,HD,hb⟩:=hrel
   by_cases hk0:k=0
   ·subst hk0
    have hi:ii<0:=by have:=HII.out;omega
    have HE:=hdz (show u=v by
     have:=HD.out
     rw[List.drop_zero,List.drop_zero] at this
     rw[←HMX.out.val,←HMY.out.val,this])
    go_wp2
    rw[HPO.out,Znt HE.out]
    exact⟨rfl,hb⟩
   ·obtain⟨k',rfl⟩:∃k',k=k'+1:=⟨k-1,by omega⟩
    obtain rfl:ii=(k':Int):=by have:=HII.out;omega
    obtain⟨b1,o1,x,rfl,hl1,hx,d1⟩:=HX.out.gri (i:=k') (by omega)
    obtain⟨b2,o2,y,rfl,hl2,hy,d2⟩:=HY.out.gri (i:=k') (by omega)
    have d1':=(hb.cell (p:=⟨b1,o1+k',none⟩) hl1).trans d1
    have d2':=(hb.cell (p:=⟨b2,o2+k',none⟩) hl2).trans d2
    have HGX:=hdz hx;have HGY:=hdz hy
    clear d1 d2 hx hy
    by_cases hlt:x<y
    ·have HL:=hdz (ZdL HMX.out.gs HGX.out HGY.out HD.out hlt)
     rw[HMX.out.val,HMY.out.val] at HL
     go_wp2
     go_quiet (fail)
     go_wp2
     rw[HPO.out,Zma HL.out]
     exact⟨rfl,bdN hb nq⟩
    ·have hlt':decide (x<y)=false:=by simpa using hlt
     by_cases hgt:y<x
     ·have HL:=hdz (ZdL HMY.out.gs HGY.out HGX.out HD.out.symm hgt)
      rw[HMX.out.val,HMY.out.val] at HL
      clear hlt
      go_wp2
      go_quiet (fail)
      have d1'':(wr.drewN nq).cell? ⟨b1,o1+k',none⟩=some (.int .i64 x):=d1'
      have d2'':(wr.drewN nq).cell? ⟨b2,o2+k',none⟩=some (.int .i64 y):=d2'
      have hb':=bdN hb nq
      clear d1' d2' hb
      generalize wr.drewN nq=wq at*
      go_wp2
      go_quiet (fail)
      go_wp2
      rw[HPO.out,Zmb HL.out]
      exact⟨rfl,bdN hb' _⟩
     ·have hgt':decide (y<x)=false:=by simpa using hgt
      obtain rfl:x=y:=by omega
      have HD2:=hdz (show xs.drop k'=ys.drop k' by
       obtain⟨l1,e1⟩:=List.getElem?_eq_some_iff.1 HGX.out
       obtain⟨l2,e2⟩:=List.getElem?_eq_some_iff.1 HGY.out
       rw[List.drop_eq_getElem_cons l1,List.drop_eq_getElem_cons l2,e1,e2,HD.out])
      clear hlt hgt
      go_wp2
      go_quiet (fail)
      have d1'':(wr.drewN nq).cell? ⟨b1,o1+k',none⟩=some (.int .i64 x):=d1'
      have d2'':(wr.drewN nq).cell? ⟨b2,o2+k',none⟩=some (.int .i64 x):=d2'
      have hb':=bdN hb nq
      clear d1' d2' hb
      generalize wr.drewN nq=wq at*
      go_wp2
      go_quiet (fail)
      go_wp2
      go_roundw
      case rel=>exact⟨k',(k':Int)-1,rfl,by show _=_;rfl,by omega,HD2,bdN hb' _⟩
      case measure=>simp[intOf]
 ·have hne:((n:Int) !=(m:Int))=true:=by simp;omega
  by_cases hlt:n<m
  ·have HL:=hdz (ZaC HMX.out HMY.out (by rw[←HXN.out,←HYN.out];omega))
   have hd:decide (n<m)=true:=by simpa using hlt
   clear hnm
   go_enter Tryz.func142,Tryz.ntmps142
   go_wp2
   rw[HPO.out,Zma HL.out]
   exact⟨rfl,Below.refl _ _⟩
  ·have HL:=hdz (ZaC HMY.out HMX.out (by rw[←HXN.out,←HYN.out];omega))
   have hd:decide (n<m)=false:=by simpa using hlt
   clear hnm
   go_enter Tryz.func142,Tryz.ntmps142
   go_wp2
   rw[HPO.out,Zmb HL.out]
   exact⟨rfl,Below.refl _ _⟩
end
section
open Go.RowKit Go.Shelf
structure RPInv (xs ys:List Nat) (i carry:Nat) (os:List Nat):Prop where
 len:os.length=i
 val:gv os+1000000000^i*carry=gv (xs.take i)+gv (ys.take i)
 gs:Gs os
 one:carry≤1
theorem RPInv.zero(xs ys:List Nat):RPInv xs ys 0 0 []:=⟨rfl,by simp[gv],Gs.nil,by omega⟩
theorem RPInv.step{xs ys os:List Nat}{i carry:Nat}(h:RPInv xs ys i carry os)(hgx:Gs xs)(hgy:Gs ys):
 RPInv xs ys (i+1) ((gAt xs i+gAt ys i+carry)/1000000000) (os++[(gAt xs i+gAt ys i+carry)%1000000000]):=by
 have h1:=Zd4 hgx i
 have h2:=Zd4 hgy i
 have h3:=h.one
 refine⟨by rw[List.length_append,h.len];rfl,?_,h.gs.snoc (by omega),by omega⟩
 rw[Zby,h.len,Zb8 xs i,Zb8 ys i]
 have hv:=h.val
 generalize hs:gAt xs i+gAt ys i+carry=s at*
 have e:1000000000^i*(s%1000000000)+1000000000^(i+1)*(s/1000000000)=1000000000^i*s:=by
  rw[Nat.pow_succ,Nat.mul_assoc,←Nat.mul_add]
  congr 1
  omega
 have e2:1000000000^i*s=1000000000^i*gAt xs i+1000000000^i*gAt ys i+1000000000^i*carry:=by rw[←hs,Nat.mul_add,Nat.mul_add]
 omega
theorem RPInv.done{xs ys os:List Nat}{i:Nat}(h:RPInv xs ys i 0 os)(hx:xs.length≤i)(hy:ys.length≤i):gv os=gv xs+gv ys:=by
 have hv:=h.val
 rw[List.take_of_length_le hx,List.take_of_length_le hy] at hv
 simpa using hv
theorem Zg3{xs:List Nat}{i:Nat}(h:xs.length≤i):gAt xs i=0:=by
 unfold gAt
 simp[List.getD,List.getElem?_eq_none h]
def MagIPost(v:Nat)(w:World)(e:Ending)(w':World):Prop:=∃A n c xs,e=.returned (.slice A n c)∧Gi w' w'.heap.size A n xs∧n≤c∧Mag xs v∧Below w.heap.size w w'
theorem ZjY(A A':Option Addr)(n m c c':Nat)(xs ys:List Nat)(u v:Nat)(w:World)(hx:Gi w w.heap.size A n xs)(hy:Gi w w.heap.size A' m ys)(mx:Mag xs u)(my:Mag ys v)(hn:n≤1000000)(hm:m≤1000000):
 Calls Tryz.prog 141 #[.slice A n c,.slice A' m c'] w (MagIPost (u+v) w):=by
 have HX:=hdz hx;have HY:=hdz hy;have HMX:=hdz mx;have HMY:=hdz my
 have HXN:=hdz hx.1;have HYN:=hdz hy.1
 have HPO:=hdz (show MagIPost (u+v) w=fun e w'=>∃A n c xs,e=.returned (.slice A n c)∧Gi w' w'.heap.size A n xs∧n≤c∧Mag xs (u+v)∧Below w.heap.size w w' from rfl)
 generalize MagIPost (u+v) w=post at*
 clear hx hy mx my
 have HO0:=hdz (Own.lit (enc:=G1) (k:=1) (base:=w.heap.size) w #[] 3 [] rfl Zav (Nat.le_refl _) (by simp))
 go_enter Tryz.func141,Tryz.ntmps141
 go_wp2_with fail
 go_loopw [5,6,7] (fun o cy i wr=>∃(k carry co:Nat) (Ao:Option Addr) (os:List Nat),i=.int .i64 k∧cy=.int .i64 carry∧o=.slice Ao k co∧carry≤1∧k≤n+m+1∧Hid (n≤k→m≤k→n+m<k→carry=0)∧Hid (RPInv xs ys k carry os)∧Hid (Own G1 1 3 wr w.heap.size (.slice Ao k co) os)∧Below w.heap.size w wr) (fun _ _ i _=>n+m+1-(intOf i).toNat)
 case atStart=>exact⟨0,0,0,_,[],rfl,rfl,rfl,by omega,by omega,by show _→_→_→_;intros;rfl,RPInv.zero xs ys,HO0,(Below.refl _ _).alloc (Nat.le_refl _) _⟩
 case round=>
  clear HO0
  obtain⟨k,carry,co,Ao,os,rfl,rfl,rfl,hcy,hk,HZ,HI,HO,hb⟩:=hrel
  obtain⟨bb,hbb⟩:∃bb:Bool,bb=decide (k<n∨k<m∨0<carry):=⟨_,rfl⟩
  have HBB:=hdz hbb;clear hbb
  go_upto_region 4 with (fail)
  go_cut [23] (fun s wc=>s=.bool bb∧wc=wr)
  case first=>
   by_cases h1:k<n
   ·have hd:decide (k<n)=true:=by simpa using h1
    go_wp2_with fail
    go_meet
    exact⟨by rw[HBB.out];simp[h1],rfl⟩
   ·have hd:decide (k<n)=false:=by simpa using h1
    by_cases h2:k<m
    ·have hd2:decide (k<m)=true:=by simpa using h2
     go_wp2_with fail
     go_meet
     exact⟨by rw[HBB.out];simp[h2],rfl⟩
    ·have hd2:decide (k<m)=false:=by simpa using h2
     by_cases h3:0<carry
     ·have hd3:decide (0<carry)=true:=by simpa using h3
      go_wp2_with fail
      go_meet
      exact⟨by rw[HBB.out];simp[h3],rfl⟩
     ·have hd3:decide (0<carry)=false:=by simpa using h3
      go_wp2_with fail
      go_meet
      exact⟨by rw[HBB.out];simp[h1,h2,h3],rfl⟩
  case rest=>
  obtain⟨rfl,hwc⟩:=hcut
  obtain⟨w1,rfl⟩:∃W,W=wc:=⟨_,rfl⟩
  subst hwc
  cases bb with
  |true=>
   have hgo:k<n∨k<m∨0<carry:=by have:=HBB.out;simpa using this
   have hkl:k≤n+m:=by
    rcases Nat.lt_or_ge (n+m) k with h|h
    ·have:=HZ.out (by omega) (by omega) h;omega
    ·exact h
   have HGX:=hdz (Zcu A n c xs k w1 (HX.out.here hb) (by omega) (by omega))
   have HGY:=hdz (Zcu A' m c' ys k w1 (HY.out.here hb) (by omega) (by omega))
   have hx9:=Zd4 HMX.out.gs k;have hy9:=Zd4 HMY.out.gs k
   have HST:=hdz (HI.out.step HMX.out.gs HMY.out.gs)
   have HZ2:=hdz (show n≤k+1→m≤k+1→n+m<k+1→(gAt xs k+gAt ys k+carry)/1000000000=0 by
    intro _ _ h
    rw[Zg3 (by rw[←HXN.out];omega),Zg3 (by rw[←HYN.out];omega)]
    omega)
   generalize gAt xs k=gx at*
   generalize gAt ys k=gy at*
   obtain⟨s,hs⟩:∃s,s=gx+gy+carry:=⟨_,rfl⟩
   rw[←hs] at HST HZ2
   have hsi:(gx:Int)+(gy:Int)+(carry:Int)=(s:Int):=by omega
   have hsl:s≤1999999999:=by omega
   clear hs hgo HBB
   have HIL:=hdz HI.out.len
   obtain⟨q1,q2,q3,hf⟩:=HO.out.facts;clear q1 q2 q3
   have HF:=hdz hf;clear hf
   go_wp2_with fail
   (with_reducible refine HGX.out.mono ?_)
   rintro e w2 ⟨rfl,rfl⟩
   go_wp2_with fail
   (with_reducible refine HGY.out.mono ?_)
   rintro e w2 ⟨rfl,rfl⟩
   obtain⟨sr,hsr⟩:∃sr,sr=s%1000000000:=⟨_,rfl⟩
   have hsm:(s:Int)%1000000000=(sr:Int):=by omega
   rw[←hsr] at HST
   clear hsr
   go_wp2_with (at_builtin;refine Zap _ rfl (.tmp 35) (.tmp 38) _ rfl Zdd Zav Zgl (base:=w.heap.size) (.slice Ao k co) os rfl (HO.out.alloc _) _ _ 1 1 [sr] rfl (Sl.lit w1 #[.int .i64 sr] 3 [sr] rfl Zav) (by rw[HIL.out];omega) (by have:=hb.size;simp;omega) ?_;intro A4 c4 w4 ho4 hg4 hat4;rw[HIL.out] at ho4 ⊢)
   have hb4:Below w.heap.size w w4:=Zae (hb.alloc hb.size _) hg4 (by have:=hb.size;simp;omega) (fun g' e=>by
    rcases HF.out with ⟨rfl,_⟩|⟨g,rfl,hg1,hg2⟩
    ·simp[Value.ownBlock] at e
    ·simp[Value.ownBlock] at e;omega)
   have HO4:=hdz ho4;clear ho4 hg4 hat4
   go_roundw
   case rel=>exact⟨k+1,s/1000000000,c4,A4,os++[sr],by go_num,by go_num,rfl,by omega,by omega,HZ2,HST,HO4,hb4⟩
   case measure=>simp[intOf];omega
  |false=>
   have hno:¬(k<n∨k<m∨0<carry):=by have:=HBB.out;simpa using this
   obtain rfl:carry=0:=by omega
   have HV:=hdz (HI.out.done (by rw[←HXN.out];omega) (by rw[←HYN.out];omega))
   rw[HMX.out.val,HMY.out.val] at HV
   have HOF:=hdz HO.out.facts
   have HTR:=hdz (Zch Ao k co os w1 (HO.out.sl Zav) (by have:=HOF.out.2.1;have:=HOF.out.1;omega) (by omega))
   clear hno HBB HZ
   go_wp2_with fail
   (with_reducible refine HTR.out.mono ?_)
   rintro e w3 ⟨j,rfl,hj,hgv,hnz,rfl⟩
   go_wp2_with fail
   rw[HPO.out]
   exact⟨Ao,j,co,os.take j,rfl,(HO.out.sl Zav).take hj,by have:=HOF.out.2.1;have:=HOF.out.1;omega,⟨HI.out.gs.take j,hnz,by rw[hgv];exact HV.out⟩,hb⟩
end
section
open Go.RowKit Go.Shelf
def iV(x:Nat):Value:=.int .i64 x
theorem Znu(xs:List Nat):xs.flatMap G1=xs.map iV:=by
 induction xs with
 |nil=>rfl
 |cons a xs ih=>rw[List.flatMap_cons,ih];rfl
theorem Znv:∃i,Tryz.prog.info? 3=some i∧i.zero=some (.int .i64 0)∧i.size=1∧i.bytes=8:=by
 have h:(Tryz.prog.info? 3).map (fun i=>(i.zero,i.size,i.bytes))=some (some (.int .i64 0),1,8):=by kernel_rfl
 cases hi:Tryz.prog.info? 3 with
 |none=>rw[hi] at h;cases h
 |some i=>
  rw[hi] at h
  simp only[Option.map_some,Option.some.injEq,Prod.mk.injEq] at h
  exact⟨i,rfl,h.1,h.2.1,h.2.2⟩
theorem Znw(k:Nat):(madeCells (Value.int .i64 0).cells k).toList=List.replicate k (Value.int .i64 0):=by
 apply List.ext_getElem?
 intro i
 unfold madeCells
 by_cases hi:i<k
 ·simp[hi,Value.cells,Nat.mod_one]
 ·simp[hi]
theorem Zmc(w:World)(base n m:Nat)(L C:Int)(hL:L=(n:Int))(hC:C=(m:Int))(hnm:n≤m)(hm:m≤1000000000000)(hb:base≤w.heap.size):
 ∃w',(Instr.makeSlice 124 (.int .i64 L) (.int .i64 C)).run Tryz.prog w=.ok (.slice (some ⟨w.heap.size,0,none⟩) n m) w'∧Own G1 1 3 w' base (.slice (some ⟨w.heap.size,0,none⟩) n m) (List.replicate n 0)∧Below w.heap.size w w':=by
 subst hL;subst hC
 obtain⟨i,hi,hz,hs,hby⟩:=Znv
 have hr:=run_make (P:=Tryz.prog) w 124 3 i (.int .i64 0) Tryz.underlying124 hi hz .i64 .i64 n m (by omega) (by omega) (by rw[hby];omega) (by omega)
 simp only[Int.toNat_natCast] at hr
 refine⟨_,hr,?_,(Below.refl _ _).alloc (Nat.le_refl _) _⟩
 refine⟨by rw[Znu,List.length_map,Nat.mul_one],.inr ⟨w.heap.size,m,_,by simp,hb,heap_alloc_new w _,by simpa using hnm,by unfold maxLen;omega,by rw[size_madeCells,hs],?_⟩⟩
 rw[Znw,hs,Znu,List.length_replicate,List.map_replicate,Nat.mul_one,Nat.mul_one,List.take_replicate,Nat.min_eq_left hnm]
 rfl
theorem Own.setI{w:World}{base g n c i x y:Nat}{os:List Nat}(h:Own G1 1 3 w base (.slice (some ⟨g,0,none⟩) n c) os)(hi:os[i]?=some x):
 Own G1 1 3 (w.setCell ⟨g,i,none⟩ (.int .i64 y)) base (.slice (some ⟨g,0,none⟩) n c) (os.set i y):=by
 have:=h.set_ Zav (i:=i) (j:=0) (x:=x) (y:=y) (u:=.int .i64 y) hi (by decide) rfl
 simpa using this
theorem Own.cellI{wr:World}{base g n c:Nat}{xs:List Nat}(h:Own G1 1 3 wr base (.slice (some ⟨g,0,none⟩) n c) xs){i x:Nat}(hi:xs[i]?=some x):wr.cell? ⟨g,i,none⟩=some (.int .i64 x):=by
 have hl:=(List.getElem?_eq_some_iff.1 hi).1
 obtain⟨b,o,y,e,_,hy,hc⟩:=(h.sl Zav).gri (i:=i) (by rw[h.facts.1];exact hl)
 injection e with e
 injection e with e1 e2
 subst e1;subst e2
 rw[hi] at hy
 injection hy with hy
 subst hy
 simpa using hc
def RT(xs ys os0:List Nat)(i x j carry:Nat)(os:List Nat):Prop:=(j≤ys.length∧TInv os0 ys i x j carry os)∨(j=ys.length+1∧carry=0∧TOut xs ys (i+1) os)
theorem RT.facts{xs ys os0 os:List Nat}{i x j carry:Nat}(h:RT xs ys os0 i x j carry os)(h0:TOut xs ys i os0)(_hx:xs[i]?=some x):Gs os∧os.length=xs.length+ys.length∧carry<1000000000∧j≤ys.length+1:=by
 rcases h with ⟨h1,h2⟩|⟨h1,h2,h3⟩
 ·exact⟨h2.gs,by rw[h2.len,h0.len],h2.lt,by omega⟩
 ·exact⟨h3.gs,h3.len,by omega,by omega⟩
theorem RT.step{xs ys os0 os:List Nat}{i x j carry o:Nat}(h:RT xs ys os0 i x j carry os)(h0:TOut xs ys i os0)(hx:xs[i]?=some x)(hx9:x<1000000000)(hgy:Gs ys)(hgo:j<ys.length∨0<carry)(ho:os[i+j]?=some o):
 j≤ys.length∧RT xs ys os0 i x (j+1) ((o+x*gAt ys j+carry)/1000000000) (os.set (i+j) ((o+x*gAt ys j+carry)%1000000000)):=by
 rcases h with ⟨h1,h2⟩|⟨h1,h2,h3⟩
 ·refine⟨h1,?_⟩
  by_cases hj:j<ys.length
  ·obtain⟨y,hy⟩:∃y,ys[j]?=some y:=⟨_,List.getElem?_eq_getElem hj⟩
   have hg:gAt ys j=y:=by unfold gAt;simp[List.getD,hy]
   have:=h2.step ho hy hx9 hgy
   rw[hg,show o+x*y+carry=carry+(o+x*y) by omega]
   exact .inl ⟨by omega,this⟩
  ·obtain rfl:j=ys.length:=by omega
   have h4:=h0.at_ (List.getElem?_eq_some_iff.1 hx).1 h2
   rw[h4] at ho
   injection ho with ho
   subst ho
   have hlt:=h2.lt
   rw[Zg3 (Nat.le_refl _),show(0+x*0+carry)/1000000000=0 by rw[Nat.mul_zero];omega,show(0+x*0+carry)%1000000000=carry by rw[Nat.mul_zero];omega]
   exact .inr ⟨rfl,rfl,h0.next hx h2⟩
 ·exfalso;omega
theorem Zlp{os:List Nat}{i x:Nat}(h:os[i]?=some x):os.set i x=os:=by
 apply List.ext_getElem?
 intro j
 rw[List.getElem?_set]
 split
 ·rename_i e;subst e;split
  ·exact h.symm
  ·rename_i h2;rw[List.getElem?_eq_none (by omega)]
 ·rfl
theorem RT.done{xs ys os0 os:List Nat}{i x j:Nat}(h:RT xs ys os0 i x j 0 os)(h0:TOut xs ys i os0)(hx:xs[i]?=some x)(hj:ys.length≤j):TOut xs ys (i+1) os:=by
 rcases h with ⟨h1,h2⟩|⟨_,_,h3⟩
 ·obtain rfl:j=ys.length:=by omega
  have h4:=h0.at_ (List.getElem?_eq_some_iff.1 hx).1 h2
  have:=h0.next hx h2
  rwa [Zlp h4] at this
 ·exact h3
theorem Zdw(A A':Option Addr)(n m c c':Nat)(xs ys:List Nat)(u v:Nat)(w:World)(hx:Gi w w.heap.size A n xs)(hy:Gi w w.heap.size A' m ys)(mx:Mag xs u)(my:Mag ys v)(hn:n≤1000000)(hm:m≤1000000):
 Calls Tryz.prog 139 #[.slice A n c,.slice A' m c'] w (MagIPost (u*v) w):=by
 have HX:=hdz hx;have HY:=hdz hy;have HMX:=hdz mx;have HMY:=hdz my
 have HXN:=hdz hx.1;have HYN:=hdz hy.1
 have HPO:=hdz (show MagIPost (u*v) w=fun e w'=>∃A n c xs,e=.returned (.slice A n c)∧Gi w' w'.heap.size A n xs∧n≤c∧Mag xs (u*v)∧Below w.heap.size w w' from rfl)
 generalize MagIPost (u*v) w=post at*
 clear hx hy mx my
 obtain⟨w1,hmk,ho1,hb1⟩:=Zmc w w.heap.size (n+m) (n+m) ((n:Int)+m) ((n:Int)+m) (by omega) (by omega) (by omega) (by omega) (Nat.le_refl _)
 have HO1:=hdz ho1;clear ho1
 have HT0:=hdz (TOut.start xs ys)
 rw[←HXN.out,←HYN.out] at HT0
 go_enter Tryz.func139,Tryz.ntmps139
 go_wp2_with fail
 clear hmk
 go_loopw [6] (fun i wr=>∃(k:Nat) (os:List Nat),k≤n∧i=.int .i64 k∧Hid (TOut xs ys k os)∧Hid (Own G1 1 3 wr w.heap.size (.slice (some ⟨w.heap.size,0,none⟩) (n+m) (n+m)) os)∧Below w.heap.size w wr) (fun i _=>n-(intOf i).toNat)
 case atStart=>exact⟨0,_,Nat.zero_le _,rfl,HT0,HO1,hb1⟩
 case round=>
  clear HT0 HO1 hb1
  obtain⟨i,os0,hi,rfl,HT,HO0,hb0⟩:=hrel
  by_cases hlt:i<n
  ·obtain⟨xb,xo,x,rfl,hxb,hxi,d0⟩:=HX.out.gri hlt
   have hx9:=HMX.out.gs.at_ hxi
   have HXI:=hdz hxi;have HD0:=hdz d0;clear hxi d0
   have HZ:=hdz (show RT xs ys os0 i x 0 0 os0 from .inl ⟨Nat.zero_le _,TInv.zero HT.out.gs⟩)
   go_wp2_with fail
   go_loopw [7,8] (fun cy k wr=>∃(j carry:Nat) (os:List Nat),k=.int .i64 j∧cy=.int .i64 carry∧carry<1000000000∧j≤m+1∧Hid (RT xs ys os0 i x j carry os)∧Hid (Own G1 1 3 wr w.heap.size (.slice (some ⟨w.heap.size,0,none⟩) (n+m) (n+m)) os)∧Below w.heap.size w wr) (fun _ k _=>m+1-(intOf k).toNat)
   case atStart=>exact⟨0,0,os0,rfl,rfl,by omega,by omega,HZ,HO0,hb0⟩
   case round=>
    clear HZ HO0 hb0
    obtain⟨j,carry,os,rfl,rfl,hcy,hj,HI,HO,hb⟩:=hrel
    obtain⟨bb,hbb⟩:∃bb:Bool,bb=decide (j<m∨0<carry):=⟨_,rfl⟩
    have HBB:=hdz hbb;clear hbb
    go_upto_region 7 with (fail)
    go_cut [29] (fun s wc=>s=.bool bb∧wc=wr)
    case first=>
     by_cases h1:j<m
     ·have hd:decide (j<m)=true:=by simpa using h1
      go_wp2_with fail
      go_meet
      exact⟨by rw[HBB.out];simp[h1],rfl⟩
     ·have hd:decide (j<m)=false:=by simpa using h1
      by_cases h3:0<carry
      ·have hd3:decide (0<carry)=true:=by simpa using h3
       go_wp2_with fail
       go_meet
       exact⟨by rw[HBB.out];simp[h3],rfl⟩
      ·have hd3:decide (0<carry)=false:=by simpa using h3
       go_wp2_with fail
       go_meet
       exact⟨by rw[HBB.out];simp[h1,h3],rfl⟩
    case rest=>
    obtain⟨rfl,hwc⟩:=hcut
    obtain⟨w2,rfl⟩:∃W,W=wc:=⟨_,rfl⟩
    subst hwc
    cases bb with
    |true=>
     have hgo:j<ys.length∨0<carry:=by have:=HBB.out;rw[←HYN.out];simpa using this
     have hjm:j≤m:=by
      rcases HI.out with ⟨h1,_⟩|⟨h1,h2,_⟩
      ·rw[HYN.out];exact h1
      ·rcases hgo with h|h<;>omega
     obtain⟨o,ho⟩:∃o,os[i+j]?=some o:=⟨_,List.getElem?_eq_getElem (by rw[(HI.out.facts HT.out HXI.out).2.1,←HXN.out,←HYN.out];omega)⟩
     have ho9:=(HI.out.facts HT.out HXI.out).1.at_ ho
     have HST:=hdz (HI.out.step HT.out HXI.out hx9 HMY.out.gs hgo ho).2
     have hy9:=Zd4 HMY.out.gs j
     have HGR:=hdz (fun W (hb:Below w.heap.size w W)=>Zcu A' m c' ys j W (HY.out.here hb) (by omega) (by omega))
     generalize gAt ys j=gy at*
     obtain⟨pj,hpj⟩:∃pj,pj=i+j:=⟨_,rfl⟩
     rw[←hpj] at ho HST
     have hpji:(i:Int)+(j:Int)=(pj:Int):=by omega
     have hpjl:pj<n+m:=by omega
     have f1:=HO.out.cellI ho
     have f0:=HO.out.frozen pj
     have d1:=(hb.cell (p:=⟨xb,xo+i,none⟩) hxb).trans HD0.out
     have HOK:=hdz ho
     have hp:=Zfi hx9 hy9
     obtain⟨p,hpe⟩:∃p,p=x*gy:=⟨_,rfl⟩
     rw[←hpe] at hp HST
     have hpi:(x:Int)*(gy:Int)=(p:Int):=by rw[hpe];simp
     obtain⟨s1,hs1⟩:∃s1,s1=o+p:=⟨_,rfl⟩
     obtain⟨s,hs⟩:∃s,s=s1+carry:=⟨_,rfl⟩
     have hs1i:(o:Int)+(p:Int)=(s1:Int):=by omega
     have hsi:(s1:Int)+(carry:Int)=(s:Int):=by omega
     have hs1l:s1≤999999999000000000:=by omega
     have hsl:s≤999999999999999999:=by omega
     rw[show o+p+carry=s by omega] at HST
     clear ho hpe hpj hs hs1 hgo HBB
     go_upto_region 9 with (fail)
     have iw0:IntKind.i64.wrap (pj:Int)=(pj:Int):=IntWalk.i64_in _ (by omega)
     have iw1:IntKind.i64.wrap (p:Int)=(p:Int):=IntWalk.i64_in _ (by omega)
     have iw2:IntKind.i64.wrap (s1:Int)=(s1:Int):=IntWalk.i64_in _ (by omega)
     have iw3:IntKind.i64.wrap (s:Int)=(s:Int):=IntWalk.i64_in _ (by omega)
     go_quiet ((go_at_call 181;exact Calls.quiet_of_same ((HGR.out _ (bdN hb _)).mono (fun e w' h=>⟨h.1,h.2.symm⟩))))
     clear iw0 iw1 iw2 iw3
     have f1':(w2.drewN nq).cell? ⟨w.heap.size,pj,none⟩=some (.int .i64 o):=f1
     have f0':(w2.drewN nq).frozen? ⟨w.heap.size,pj,none⟩=false:=f0
     have HO':=hdz (HO.out.drewN nq)
     have hb':=bdN hb nq
     clear f1 f0 d1 hb HO
     generalize w2.drewN nq=w3 at*
     go_wp2_with fail
     go_roundw
     case rel=>
      have h3:=HO'.out.setI (i:=pj) (y:=s%1000000000) HOK.out
      rw[show((s%1000000000:Nat):Int)=(s:Int)%1000000000 by omega] at h3
      refine⟨j+1,s/1000000000,os.set pj (s%1000000000),by go_num,by go_num,by omega,by omega,HST,?_,?_⟩
      ·show Own _ _ _ _ _ _ _
       with_reducible exact h3
      ·with_reducible exact(hb'.setCell (Nat.le_refl _) _)
     case measure=>simp[intOf];omega
    |false=>
     have hno:¬(j<m∨0<carry):=by have:=HBB.out;simpa using this
     obtain rfl:carry=0:=by omega
     have HN:=hdz (HI.out.done HT.out HXI.out (by rw[←HYN.out];omega))
     clear hno HBB
     go_wp2_with fail
     go_roundw
     case rel=>exact⟨i+1,os,by omega,by go_num,HN,HO,hb⟩
     case measure=>simp[intOf];omega
  ·obtain rfl:i=n:=by omega
   have HV:=hdz (show gv os0=u*v by have:=HT.out.val;rw[List.take_of_length_le (by rw[←HXN.out];omega),HMX.out.val,HMY.out.val] at this;exact this)
   have HTR:=hdz (Zch (some ⟨w.heap.size,0,none⟩) (i+m) (i+m) os0 wr (HO0.out.sl Zav) (Nat.le_refl _) (by omega))
   go_wp2_with fail
   (with_reducible refine HTR.out.mono ?_)
   rintro e w3 ⟨j,rfl,hj,hgv,hnz,rfl⟩
   go_wp2_with fail
   rw[HPO.out]
   exact⟨_,j,_,os0.take j,rfl,(HO0.out.sl Zav).take hj,hj,⟨HT.out.gs.take j,hnz,by rw[hgv];exact HV.out⟩,hb0⟩
end
section
open Go.RowKit Go.Shelf
structure RMInv (xs ys:List Nat) (i borrow:Nat) (os:List Nat):Prop where
 len:os.length=i
 val:gv os+gv (ys.take i)=gv (xs.take i)+1000000000^i*borrow
 gs:Gs os
 one:borrow≤1
theorem RMInv.zero(xs ys:List Nat):RMInv xs ys 0 0 []:=⟨rfl,by simp[gv],Gs.nil,by omega⟩
theorem RMInv.step{xs ys os:List Nat}{i borrow x d b':Nat}(h:RMInv xs ys i borrow os)(hx:xs[i]?=some x)(hd:d<1000000000)(hb:b'≤1)(he:d+(borrow+gAt ys i)=x+1000000000*b'):RMInv xs ys (i+1) b' (os++[d]):=by
 refine⟨by rw[List.length_append,h.len];rfl,?_,h.gs.snoc hd,hb⟩
 rw[Zby,h.len,Zbf xs i x hx,Zb8 ys i]
 have hv:=h.val
 have e:=congrArg (fun t=>1000000000^i*t) he
 simp only[Nat.mul_add] at e
 rw[Nat.pow_succ,Nat.mul_assoc]
 omega
theorem RMInv.done{xs ys os:List Nat}{borrow u v:Nat}(h:RMInv xs ys xs.length borrow os)(hx:gv xs=u)(hy:gv ys=v)(hl:ys.length≤xs.length)(huv:v≤u):gv os=u-v:=by
 have hv:=h.val
 rw[List.take_length,List.take_of_length_le hl,hx,hy] at hv
 have h1:=h.one
 have hlt:=Zcy h.gs
 rw[h.len] at hlt
 have hb0:borrow=0:=by
  by_cases hb:borrow=0
  ·exact hb
  ·have:borrow=1:=by omega
   rw[this,Nat.mul_one] at hv
   omega
 rw[hb0,Nat.mul_zero] at hv
 omega
theorem Zdx(A A':Option Addr)(n m c c':Nat)(xs ys:List Nat)(u v:Nat)(w:World)(hx:Gi w w.heap.size A n xs)(hy:Gi w w.heap.size A' m ys)(mx:Mag xs u)(my:Mag ys v)(hn:n≤1000000)(hm:m≤1000000)(huv:v≤u):
 Calls Tryz.prog 143 #[.slice A n c,.slice A' m c'] w (MagIPost (u-v) w):=by
 have hmn:m≤n:=by
  rcases Nat.lt_or_ge n m with h|h
  ·have:=ZaC mx my (by rw[←hx.1,←hy.1];exact h);omega
  ·exact h
 have HX:=hdz hx;have HY:=hdz hy;have HMX:=hdz mx;have HMY:=hdz my;have HUV:=hdz huv
 have HXN:=hdz hx.1;have HYN:=hdz hy.1
 have HPO:=hdz (show MagIPost (u-v) w=fun e w'=>∃A n c xs,e=.returned (.slice A n c)∧Gi w' w'.heap.size A n xs∧n≤c∧Mag xs (u-v)∧Below w.heap.size w w' from rfl)
 generalize MagIPost (u-v) w=post at*
 clear hx hy mx my huv
 have HO0:=hdz (Own.lit (enc:=G1) (k:=1) (base:=w.heap.size) w #[] 3 [] rfl Zav (Nat.le_refl _) (by simp))
 go_enter Tryz.func143,Tryz.ntmps143
 go_wp2_with fail
 go_loopw [5,6,7] (fun o bo i wr=>∃(k borrow co:Nat) (Ao:Option Addr) (os:List Nat),i=.int .i64 k∧bo=.int .i64 borrow∧o=.slice Ao k co∧borrow≤1∧k≤n∧Hid (RMInv xs ys k borrow os)∧Hid (Own G1 1 3 wr w.heap.size (.slice Ao k co) os)∧Below w.heap.size w wr) (fun _ _ i _=>n-(intOf i).toNat)
 case atStart=>exact⟨0,0,0,_,[],rfl,rfl,rfl,by omega,by omega,RMInv.zero xs ys,HO0,(Below.refl _ _).alloc (Nat.le_refl _) _⟩
 case round=>
  clear HO0
  obtain⟨k,borrow,co,Ao,os,rfl,rfl,rfl,hbo,hk,HI,HO,hb⟩:=hrel
  by_cases hlt:k<n
  ·obtain⟨xb,xo,x,rfl,hxb,hxk,d0⟩:=HX.out.gri hlt
   have d1:=(hb.cell (p:=⟨xb,xo+k,none⟩) hxb).trans d0
   have hx9:=HMX.out.gs.at_ hxk
   have hy9:=Zd4 HMY.out.gs k
   have HGR:=hdz (fun W (hb:Below w.heap.size w W)=>Zcu A' m c' ys k W (HY.out.here hb) (by omega) (by omega))
   have HST:=hdz (fun d b' h1 h2 h3=>HI.out.step (d:=d) (b':=b') hxk h1 h2 h3)
   generalize gAt ys k=gy at*
   have HIL:=hdz HI.out.len
   obtain⟨q1,q2,q3,hf⟩:=HO.out.facts;clear q1 q2 q3
   have HF:=hdz hf;clear hf hxk d0
   obtain⟨t1,ht1⟩:∃t1:Int,(x:Int)-(gy:Int)=t1:=⟨_,rfl⟩
   obtain⟨t,ht⟩:∃t:Int,t1-(borrow:Int)=t:=⟨_,rfl⟩
   have ht1l: -1000000000≤t1∧t1≤1000000000:=by omega
   have htl: -1000000001≤t∧t≤1000000000:=by omega
   obtain⟨ht1a,ht1b⟩:=ht1l
   obtain⟨hta,htb⟩:=htl
   have HT:=hdz (show t=(x:Int)-gy-borrow by omega)
   go_upto_region 6 with (fail)
   have iw1:IntKind.i64.wrap t1=t1:=IntWalk.i64_in _ (by omega)
   have iw2:IntKind.i64.wrap t=t:=IntWalk.i64_in _ (by omega)
   go_quiet ((go_at_call 181;exact Calls.quiet_of_same ((HGR.out _ (bdN hb _)).mono (fun e w' h=>⟨h.1,h.2.symm⟩))))
   clear iw1 iw2 ht ht1 d1
   have HO':=hdz (HO.out.drewN nq)
   have hb':=bdN hb nq
   clear hb HO
   generalize wr.drewN nq=w3 at*
   obtain⟨sr,b',hsr9,hb1',hcase⟩:∃sr b':Nat,sr<1000000000∧b'≤1∧((t<0∧b'=1∧(sr:Int)=t+1000000000)∨(0≤t∧b'=0∧(sr:Int)=t)):=by
    have:=HT.out
    by_cases h0:t<0
    ·exact⟨(t+1000000000).toNat,1,by omega,by omega,.inl ⟨h0,rfl,by omega⟩⟩
    ·exact⟨t.toNat,0,by omega,by omega,.inr ⟨by omega,rfl,by omega⟩⟩
   have HN:=hdz (HST.out sr b' hsr9 hb1' (by have:=HT.out;rcases hcase with ⟨h1,h2,h3⟩|⟨h1,h2,h3⟩<;>omega))
   rcases hcase with ⟨h1,h2,h3⟩|⟨h1,h2,h3⟩
   ·subst h2
    have h3':t+1000000000=(sr:Int):=h3.symm
    clear h3
    go_wp2_with (at_builtin;refine Zap _ rfl (.tmp 30) (.tmp 32) _ rfl Zdd Zav Zgl (base:=w.heap.size) (.slice Ao k co) os rfl (HO'.out.alloc _) _ _ 1 1 [sr] rfl (Sl.lit w3 #[.int .i64 sr] 3 [sr] rfl Zav) (by rw[HIL.out];omega) (by have:=hb'.size;simp;omega) ?_;intro A4 c4 w4 ho4 hg4 hat4;rw[HIL.out] at ho4 ⊢)
    have hb4:Below w.heap.size w w4:=Zae (hb'.alloc hb'.size _) hg4 (by have:=hb'.size;simp;omega) (fun g' e=>by
     rcases HF.out with ⟨rfl,_⟩|⟨g,rfl,hg1,hg2⟩
     ·simp[Value.ownBlock] at e
     ·simp[Value.ownBlock] at e;omega)
    have HO4:=hdz ho4;clear ho4 hg4 hat4
    go_roundw
    case rel=>exact⟨k+1,1,c4,A4,os++[sr],by go_num,rfl,rfl,by omega,by omega,HN,HO4,hb4⟩
    case measure=>simp[intOf];omega
   ·subst h2
    subst h3
    have hdn:decide ((sr:Int)<0)=false:=by simp
    go_wp2_with (at_builtin;refine Zap _ rfl (.tmp 30) (.tmp 32) _ rfl Zdd Zav Zgl (base:=w.heap.size) (.slice Ao k co) os rfl (HO'.out.alloc _) _ _ 1 1 [sr] rfl (Sl.lit w3 #[.int .i64 sr] 3 [sr] rfl Zav) (by rw[HIL.out];omega) (by have:=hb'.size;simp;omega) ?_;intro A4 c4 w4 ho4 hg4 hat4;rw[HIL.out] at ho4 ⊢)
    have hb4:Below w.heap.size w w4:=Zae (hb'.alloc hb'.size _) hg4 (by have:=hb'.size;simp;omega) (fun g' e=>by
     rcases HF.out with ⟨rfl,_⟩|⟨g,rfl,hg1,hg2⟩
     ·simp[Value.ownBlock] at e
     ·simp[Value.ownBlock] at e;omega)
    have HO4:=hdz ho4;clear ho4 hg4 hat4
    go_roundw
    case rel=>exact⟨k+1,0,c4,A4,os++[sr],by go_num,rfl,rfl,by omega,by omega,HN,HO4,hb4⟩
    case measure=>simp[intOf];omega
  ·obtain rfl:k=n:=by omega
   have HV:=hdz (RMInv.done (by have:=HI.out;rw[HXN.out] at this;exact this) HMX.out.val HMY.out.val (by rw[←HXN.out,←HYN.out];omega) HUV.out)
   have HOF:=hdz HO.out.facts
   have HTR:=hdz (Zch Ao k co os wr (HO.out.sl Zav) (by have:=HOF.out.2.1;have:=HOF.out.1;omega) (by omega))
   go_wp2_with fail
   (with_reducible refine HTR.out.mono ?_)
   rintro e w3 ⟨j,rfl,hj,hgv,hnz,rfl⟩
   go_wp2_with fail
   rw[HPO.out]
   exact⟨Ao,j,co,os.take j,rfl,(HO.out.sl Zav).take hj,by have:=HOF.out.2.1;have:=HOF.out.1;omega,⟨HI.out.gs.take j,hnz,by rw[hgv];exact HV.out⟩,hb⟩
end
section
open Go.RowKit Go.Shelf
def DivIPost(q r:Nat)(w:World)(e:Ending)(w':World):Prop:=
 ∃A1 n1 c1 qs A2 n2 c2 rs,e=.returned (.tuple #[.slice A1 n1 c1,.slice A2 n2 c2])∧Gi w' w'.heap.size A1 n1 qs∧n1≤c1∧Mag qs q∧Gi w' w'.heap.size A2 n2 rs∧n2≤c2∧Mag rs r∧Below w.heap.size w w'
structure RDSt (w:World) (gq n:Nat) (qs:List Nat) (Ar:Option Addr) (nr cr:Nat) (rs:List Nat) (R:Nat) (wr:World):Prop where
 q:Own G1 1 3 wr w.heap.size (.slice (some ⟨gq,0,none⟩) n n) qs
 g:Gi wr wr.heap.size Ar nr rs
 m:Mag rs R
 c:nr≤cr
 l:nr≤200000
 bl:Below w.heap.size w wr
theorem RDSt.here{w:World}{gq n:Nat}{qs:List Nat}{Ar:Option Addr}{nr cr:Nat}{rs:List Nat}{R:Nat}{W W':World}(h:RDSt w gq n qs Ar nr cr rs R W)(hb:Below W.heap.size W W'):RDSt w gq n qs Ar nr cr rs R W':=
 ⟨h.q.below hb,h.g.here hb,h.m,h.c,h.l,h.bl.trans (hb.mono h.bl.size)⟩
theorem SgInv.step'{xs os:List Nat}{d i rest x:Nat}(h:SgInv xs d (i+1) rest os)(hx:xs[i]?=some x)(hgx:Gs xs):
 SgInv xs d i ((rest*1000000000+x)%d) (os.set i ((rest*1000000000+x)/d))∧(rest*1000000000+x)/d<1000000000:=by
 have hi:=(List.getElem?_eq_some_iff.1 hx).1
 have hio:i<os.length:=by rw[h.len];exact hi
 have hlt:=h.lt
 have hx9:=hgx.at_ hx
 have hq:(rest*1000000000+x)/d<1000000000:=by
  rw[Nat.div_lt_iff_lt_mul (by omega)]
  have:(rest+1)*1000000000≤d*1000000000:=Nat.mul_le_mul_right _ hlt
  rw[Nat.mul_comm d] at this
  omega
 have hm:=Nat.mod_lt (rest*1000000000+x) (show 0<d by omega)
 have hdm:=Nat.div_add_mod (rest*1000000000+x) d
 refine⟨⟨by rw[List.length_set];exact h.len,?_,hm,?_⟩,hq⟩
 ·rw[ZaW hio,ZaZ xs i x hx,h.val,gv,Nat.mul_add,Nat.mul_add]
  rw[Nat.mul_left_comm d 1000000000]
  omega
 ·rw[ZaW hio]
  intro y hy
  rcases List.mem_cons.1 hy with h1|h1
  ·rw[h1];exact hq
  ·exact h.gs y h1
theorem Mag.lt_len{xs:List Nat}{u:Nat}(h:Mag xs u):u<1000000000^xs.length:=by
 have:=Zcy h.gs
 rwa [h.val] at this
theorem Gi.far{w:World}{B n:Nat}{A:Option Addr}{xs:List Nat}(h:Gi w B A n xs){p:Addr}(hp:∀a,A=some a→a.block≠p.block)(u:Value):Gi (w.setCell p u) B A n xs:=
 ⟨h.1,fun hn=>by
  obtain⟨b,off,e,hb,hc⟩:=h.2 hn
  refine⟨b,off,e,hb,fun i x hi j v hj=> ?_⟩
  rw[World.cell?_of_block (Below.heap_setCell w p u b (hp _ e))]
  exact hc i x hi j v hj⟩
theorem Zlq{R v x P:Nat}(h1:v<P)(h2:R<v)(hx:x<1000000000):R*1000000000+x<P*1000000000:=by omega
theorem ZmN{R v x m:Nat}(h1:v<1000000000^m)(h2:R<v)(hx:x<1000000000):R*1000000000+x<1000000000^(m+1):=by
 rw[Nat.pow_succ]
 exact Zlq h1 h2 hx
theorem Mag.one'{s:Nat}(h0:1≤s)(h9:s<1000000000):Mag [s] s:=
 ⟨fun x hx=>by simp at hx;omega,by unfold Nz;simp;omega,by simp[gv]⟩
theorem Zg4(A A':Option Addr)(n m c c':Nat)(xs ys:List Nat)(u v:Nat)(w:World)(hx:Gi w w.heap.size A n xs)(hy:Gi w w.heap.size A' m ys)(mx:Mag xs u)(my:Mag ys v)(hn:n≤100000)(hm:m≤100000)(hv:0<v):
 Calls Tryz.prog 156 #[.slice A n c,.slice A' m c'] w (DivIPost (u/v) (u%v) w):=by
 have HX:=hdz hx;have HY:=hdz hy;have HMX:=hdz mx;have HMY:=hdz my
 have HXN:=hdz hx.1;have HYN:=hdz hy.1
 have HPO:=hdz (show DivIPost (u/v) (u%v) w=fun e w'=>∃A1 n1 c1 qs A2 n2 c2 rs,e=.returned (.tuple #[.slice A1 n1 c1,.slice A2 n2 c2])∧Gi w' w'.heap.size A1 n1 qs∧n1≤c1∧Mag qs (u/v)∧Gi w' w'.heap.size A2 n2 rs∧n2≤c2∧Mag rs (u%v)∧Below w.heap.size w w' from rfl)
 generalize DivIPost (u/v) (u%v) w=post at*
 clear hx hy mx my
 obtain⟨w1,hmk,ho1,hb1⟩:=Zmc w w.heap.size n n (n:Int) (n:Int) rfl rfl (by omega) (by omega) (Nat.le_refl _)
 have HO1:=hdz (ho1.alloc (.cells #[] 3));clear ho1
 have HT0:=hdz (SgInv.start xs v hv)
 rw[←HXN.out] at HT0
 have HS0:=hdz (show RDSt w w.heap.size n (List.replicate n 0) (some ⟨w1.heap.size,0,none⟩) 0 0 [] 0 (w1.alloc (.cells #[] 3)) from⟨HO1.out,Sl.nil,Mag.zero,Nat.le_refl _,by omega,hb1.alloc hb1.size _⟩)
 go_enter Tryz.func156,Tryz.ntmps156
 go_wp2_with fail
 clear hmk HO1
 go_loopw [7,8] (fun r i wr=>∃(k nr cr R:Nat) (ii:Int) (Ar:Option Addr) (rs qs:List Nat),i=.int .i64 ii∧Hid (ii=(k:Int)-1)∧k≤n∧r=.slice Ar nr cr∧Hid (SgInv xs v k R qs)∧Hid (RDSt w w.heap.size n qs Ar nr cr rs R wr)) (fun _ i _=>(intOf i+1).toNat)
 case atStart=>exact⟨n,0,0,0,_,_,[],_,rfl,by show _=_;rfl,Nat.le_refl _,rfl,HT0,HS0⟩
 case round=>
  clear HT0 HS0 hb1
  obtain⟨k,nr,cr,R,ii,Ar,rs,qs,rfl,HII,hk,rfl,HI,HST⟩:=hrel
  by_cases hk0:k=0
  ·subst hk0
   have hi0:ii<0:=by have:=HII.out;omega
   have HDN:=hdz (HI.out.done HMX.out.val)
   have HTR:=hdz (Zch (some ⟨w.heap.size,0,none⟩) n n qs wr (HST.out.q.sl Zav) (Nat.le_refl _) (by omega))
   go_wp2_with fail
   (with_reducible refine HTR.out.mono ?_)
   rintro e w3 ⟨j,rfl,hj,hgv,hnz,rfl⟩
   go_wp2_with fail
   rw[HPO.out]
   exact⟨_,j,_,qs.take j,Ar,nr,cr,rs,rfl,(HST.out.q.sl Zav).take hj,hj,⟨HDN.out.1.take j,hnz,by rw[hgv];exact HDN.out.2.1⟩,HST.out.g,HST.out.c,by rw[←HDN.out.2.2];exact HST.out.m,HST.out.bl⟩
  ·obtain⟨i,rfl⟩:∃i,k=i+1:=⟨k-1,by omega⟩
   obtain rfl:ii=(i:Int):=by have:=HII.out;omega
   obtain⟨xb,xo,x,rfl,hxb,hxi,d0⟩:=HX.out.gri (i:=i) (by omega)
   have d1:=(HST.out.bl.cell (p:=⟨xb,xo+i,none⟩) hxb).trans d0
   have hx9:=HMX.out.gs.at_ hxi
   have HSS:=hdz (HI.out.step' hxi HMX.out.gs)
   have HRV:=hdz HI.out.lt
   clear hxi d0
   have HRN:=hdz HST.out.g.1
   have hnr:=HST.out.l
   go_wp2_with (at_builtin;refine Zap _ rfl (.tmp 27) (.tmp 28) _ rfl Zdd Zav Zgl (base:=wr.heap.size) (.slice (some ⟨wr.heap.size,0,none⟩) 1 1) [x] rfl (Own.lit wr #[.int .i64 x] 3 [x] rfl Zav (Nat.le_refl _) (by simp[maxLen])) _ _ nr cr rs rfl (HST.out.g.alloc (Nat.le_refl _) _) (by simp;omega) (by simp) ?_;intro A4 c4 w4 ho4 hg4 hat4)
   have hbw4:Below wr.heap.size wr w4:=Zae ((Below.refl _ wr).alloc (Nat.le_refl _) _) hg4 (by simp) (fun g' e=>by simp[Value.ownBlock] at e;omega)
   simp only[List.length_singleton] at ho4
   have HTR:=hdz (Zch A4 (1+nr) c4 ([x]++rs) w4 (ho4.sl Zav) (by have h1:=ho4.facts.2.1;have h2:=ho4.facts.1;omega) (by omega))
   have HO4:=hdz ho4;clear ho4 hg4 hat4 d1
   (with_reducible refine HTR.out.mono ?_)
   rintro e w5 ⟨j,rfl,hj,hgv,hnz,rfl⟩
   have hS4:=HST.out.here hbw4
   have hR':gv ([x]++rs)=R*1000000000+x:=by
    show x+1000000000*gv rs=_
    rw[HST.out.m.val];omega
   obtain⟨R',hR'e⟩:∃R',R'=R*1000000000+x:=⟨_,rfl⟩
   rw[←hR'e] at HSS hR'
   have HM5:=hdz (show Mag (([x]++rs).take j) R' from⟨Gs.take (fun z hz=>by
    rcases List.mem_append.1 hz with h1|h1
    ·simp at h1;omega
    ·exact HST.out.m.gs z h1) j,hnz,by rw[hgv];exact hR'⟩)
   have HG5:=hdz ((HO4.out.sl Zav).take hj)
   have HJ:=hdz (show j≤m+1 by
    rw[HG5.out.1]
    refine HM5.out.len ?_
    have h1:=HMY.out.lt_len
    rw[←HYN.out] at h1
    rw[hR'e]
    exact ZmN h1 HRV.out hx9)
   have HS5:=hdz (show RDSt w w.heap.size n qs A4 j c4 (([x]++rs).take j) R' w4 from⟨hS4.q,HG5.out,HM5.out,by have h1:=HO4.out.facts.2.1;have h2:=HO4.out.facts.1;omega,by have:=HJ.out;omega,hS4.bl⟩)
   have HNE:=hdz (show ∀a,A4=some a→a.block≠w.heap.size by
    intro a ha
    have h1:w.heap.size<wr.heap.size:=by
     rcases HST.out.q.facts.2.2.2 with ⟨h,_⟩|⟨g,h,_,h2⟩
     ·cases h
     ·injection h with h;injection h with h;omega
    rcases HO4.out.facts.2.2.2 with ⟨h,_⟩|⟨g,h,h2,_⟩
    ·rw[h] at ha;cases ha
    ·rw[h] at ha;injection ha with ha;rw[←ha];simp only;omega)
   clear hS4 hR' hR'e hgv hnz HM5 HG5 HO4 HTR HST HRN hnr hj
   generalize ([x]++rs).take j=rs' at*
   obtain⟨q,hq⟩:∃q,q=R'/v:=⟨_,rfl⟩
   rw[←hq] at HSS
   have HQ:=hdz hq;clear hq
   have hq9:=HSS.out.2
   go_wp2_with fail
   go_loopw [9,10] (fun lo hi wr=>∃l h:Nat,lo=.int .i64 l∧hi=.int .i64 h∧h≤999999999∧l≤h∧Hid (l≤q∧q≤h)∧Hid (RDSt w w.heap.size n qs A4 j c4 rs' R' wr)) (fun lo hi _=>(intOf hi).toNat-(intOf lo).toNat)
   case atStart=>exact⟨0,999999999,rfl,rfl,by omega,by omega,⟨Nat.zero_le _,by omega⟩,HS5⟩
   case round=>
    clear HS5 hbw4
    obtain⟨l,h,rfl,rfl,hh,hlh,HLQ,HS⟩:=hrel
    by_cases hlt:l<h
    ·obtain⟨mid,hmid⟩:∃mid,mid=(l+h+1)/2:=⟨_,rfl⟩
     have hmi:((l:Int)+(h:Int)+1)/2=(mid:Int):=by omega
     have hm1:1≤mid:=by omega
     have hm9:mid<1000000000:=by omega
     have hlm:l<mid:=by omega
     have hmh:mid≤h:=by omega
     have hbA:=(Below.refl wr.heap.size wr).alloc (Nat.le_refl _) (.cells #[.int .i64 mid] 3)
     have HSL:=hdz (show Gi (wr.alloc (.cells #[.int .i64 mid] 3)) (wr.alloc (.cells #[.int .i64 mid] 3)).heap.size (some ⟨wr.heap.size,0,none⟩) 1 [mid] by
      have:=Sl.lit wr #[.int .i64 mid] 3 [mid] rfl Zav;simpa using this)
     have HSA:=hdz (HS.out.here hbA)
     have HTM:=hdz (Zdw A' (some ⟨wr.heap.size,0,none⟩) m 1 c' 1 ys [mid] v mid (wr.alloc (.cells #[.int .i64 mid] 3)) (HY.out.here HSA.out.bl) HSL.out HMY.out (Mag.one' hm1 hm9) (by omega) (by omega))
     have HCMP:=hdz (show v*mid≤R'↔mid≤q by rw[HQ.out,Nat.le_div_iff_mul_le hv,Nat.mul_comm])
     clear hmid hbA HSL
     go_wp2_with fail
     generalize wr.alloc _=W2 at*
     (with_reducible refine HTM.out.mono ?_)
     rintro e w6 ⟨A6,n6,c6,zs,rfl,hg6,hc6,mg6,hb6⟩
     have HS6:=hdz (HSA.out.here hb6)
     have HOR:=hdz (Ze5 A6 A4 n6 j c6 c4 zs rs' (v*mid) R' w6 hg6 HS6.out.g mg6 HS6.out.m (by
      rw[hg6.1]
      have:zs.length≤m+1:=mg6.len (by
       have h1:=HMY.out.lt_len
       rw[←HYN.out] at h1
       rw[Nat.pow_succ]
       exact Nat.lt_of_le_of_lt (Nat.mul_le_mul_left v (Nat.le_of_lt hm9)) (Nat.mul_lt_mul_of_pos_right h1 (by omega)))
      omega) (by have:=HS6.out.l;omega))
     clear hg6 mg6 hb6 HTM HSA
     go_wp2_with fail
     (with_reducible refine HOR.out.mono ?_)
     rintro e w7 ⟨rfl,hb7⟩
     have HS7:=hdz (HS6.out.here hb7)
     by_cases hle:v*mid≤R'
     ·have hsd:decide (sgnI (((v*mid:Nat):Int)-R')≤0)=true:=by
       unfold sgnI;simp only[decide_eq_true_eq];(repeat' split)<;>omega
      have HMQ:=hdz (HCMP.out.1 hle)
      clear hle HCMP HOR
      generalize sgnI (((v*mid:Nat):Int)-R')=sg_ at*
      go_wp2_with fail
      go_roundw
      case rel=>exact⟨mid,h,rfl,rfl,hh,hmh,⟨HMQ.out,HLQ.out.2⟩,HS7⟩
      case measure=>simp[intOf];omega
     ·have hsd:decide (sgnI (((v*mid:Nat):Int)-R')≤0)=false:=by
       unfold sgnI;simp only[decide_eq_false_iff_not];(repeat' split)<;>omega
      have HMQ:=hdz (show ¬mid≤q from fun h=>hle (HCMP.out.2 h))
      clear hle HCMP HOR
      generalize sgnI (((v*mid:Nat):Int)-R')=sg_ at*
      go_wp2_with fail
      go_roundw
      case rel=>exact⟨l,mid-1,rfl,by rw[show((mid-1:Nat):Int)=(mid:Int)-1 by omega],by omega,by omega,⟨HLQ.out.1,by have:=HMQ.out;omega⟩,HS7⟩
      case measure=>simp[intOf];omega
    ·obtain rfl:l=q:=by have:=HLQ.out;omega
     have hld:decide (l<h)=false:=by simpa using hlt
     clear hlt
     obtain⟨o,ho⟩:∃o,qs[i]?=some o:=⟨_,List.getElem?_eq_getElem (by rw[HI.out.len,←HXN.out];omega)⟩
     have e0:=HS.out.q.cellI ho
     have f0:=HS.out.q.frozen i
     have HOK:=hdz ho;clear ho
     have HMD:=hdz (show R'%v=R'-v*l by rw[HQ.out];have:=Nat.div_add_mod R' v;omega)
     have HLE:=hdz (show v*l≤R' by rw[HQ.out];exact Nat.mul_div_le R' v)
     have HNX:=hdz HSS.out.1
     have hi1:i<n:=by omega
     have HS8:=hdz (show RDSt w w.heap.size n (qs.set i l) A4 j c4 rs' R' (wr.setCell ⟨w.heap.size,i,none⟩ (.int .i64 l)) from
      ⟨HS.out.q.setI HOK.out,by have:=HS.out.g.far (p:=⟨w.heap.size,i,none⟩) (HNE.out) (.int .i64 l);simpa using this,HS.out.m,HS.out.c,HS.out.l,HS.out.bl.setCell (p:=⟨w.heap.size,i,none⟩) (Nat.le_refl _) _⟩)
     obtain⟨W8,hW8⟩:∃W8,W8=wr.setCell ⟨w.heap.size,i,none⟩ (.int .i64 l):=⟨_,rfl⟩
     rw[←hW8] at HS8
     have HW8:=hdz hW8;clear hW8
     clear HS
     by_cases hl0:l=0
     ·have hd:decide (0<l)=false:=by simp[hl0]
      have HEQ:=hdz (show R'%v=R' by rw[HMD.out,hl0];simp)
      clear hl0
      go_wp2_with fail
      rw[←HW8.out]
      go_roundw
      case rel=>exact⟨i,j,c4,R'%v,(i:Int)-1,A4,rs',qs.set i l,rfl,by show _=_;rfl,by omega,rfl,HNX,by rw[HEQ.out];exact HS8⟩
      case measure=>simp[intOf]
     ·have hd:decide (0<l)=true:=by simp;omega
      have hbA:=(Below.refl W8.heap.size W8).alloc (Nat.le_refl _) (.cells #[.int .i64 l] 3)
      have HSL:=hdz (show Gi (W8.alloc (.cells #[.int .i64 l] 3)) (W8.alloc (.cells #[.int .i64 l] 3)).heap.size (some ⟨W8.heap.size,0,none⟩) 1 [l] by
       have:=Sl.lit W8 #[.int .i64 l] 3 [l] rfl Zav;simpa using this)
      have HSA:=hdz (HS8.out.here hbA)
      have HTM:=hdz (Zdw A' (some ⟨W8.heap.size,0,none⟩) m 1 c' 1 ys [l] v l (W8.alloc (.cells #[.int .i64 l] 3)) (HY.out.here HSA.out.bl) HSL.out HMY.out (Mag.one' (by omega) hq9) (by omega) (by omega))
      clear hbA HSL hl0
      go_wp2_with fail
      rw[←HW8.out]
      have hsz8:W8.heap.size=wr.heap.size:=by rw[HW8.out];simp
      rw[hsz8] at HTM
      clear hsz8
      generalize W8.alloc _=W2 at*
      (with_reducible refine HTM.out.mono ?_)
      rintro e w6 ⟨A6,n6,c6,zs,rfl,hg6,hc6,mg6,hb6⟩
      have HS6:=hdz (HSA.out.here hb6)
      have HMI:=hdz (Zdx A4 A6 j n6 c4 c6 rs' zs R' (v*l) w6 HS6.out.g hg6 HS6.out.m mg6 (by have:=HS6.out.l;omega) (by
       rw[hg6.1]
       have:zs.length≤m+1:=mg6.len (by
        have h1:=HMY.out.lt_len
        rw[←HYN.out] at h1
        rw[Nat.pow_succ]
        exact Nat.lt_of_le_of_lt (Nat.mul_le_mul_left v (Nat.le_of_lt hq9)) (Nat.mul_lt_mul_of_pos_right h1 (by omega)))
       omega) HLE.out)
      rw[←HMD.out] at HMI
      clear hg6 mg6 hb6 HTM HSA
      go_wp2_with fail
      (with_reducible refine HMI.out.mono ?_)
      rintro e w7 ⟨A9,n9,c9,rs9,rfl,hg9,hc9,mg9,hb9⟩
      have HS9:=HS6.out.here hb9
      have HS10:=hdz (show RDSt w w.heap.size n (qs.set i l) A9 n9 c9 rs9 (R'%v) w7 from⟨HS9.q,hg9,mg9,hc9,by
       rw[hg9.1]
       have:rs9.length≤m:=mg9.len (by
        have h1:=HMY.out.lt_len
        rw[←HYN.out] at h1
        exact Nat.lt_trans (Nat.mod_lt _ hv) h1)
       omega,HS9.bl⟩)
      clear hg9 mg9 HS9
      go_wp2_with fail
      go_roundw
      case rel=>exact⟨i,n9,c9,R'%v,(i:Int)-1,A9,rs9,qs.set i l,rfl,by show _=_;rfl,by omega,rfl,HNX,HS10⟩
      case measure=>simp[intOf]
end
section
open Go.RowKit Go.Shelf
def RNumB(w:World)(p:Nat)(neg:Bool)(A:Option Addr)(n c:Nat):Prop:=w.heap[p]?=some (.cells #[.bool neg,.slice A n c] 126 (0,0))
section
variable {w w':World} {p q:Nat} {neg:Bool} {A:Option Addr} {n c:Nat}
theorem RNumB.lt(h:RNumB w p neg A n c):p<w.heap.size:=(Array.getElem?_eq_some_iff.1 h).1
theorem RNumB.cells(h:RNumB w p neg A n c):w.cell? ⟨p,0,none⟩=some (.bool neg)∧w.cell? ⟨p,1,none⟩=some (.slice A n c):=
 ⟨cell_of_row w p 0 _ 126 (0,0) h,cell_of_row w p 1 _ 126 (0,0) h⟩
theorem RNumB.frozen(h:RNumB w p neg A n c)(j:Nat):w.frozen? ⟨p,j,none⟩=false:=by
 unfold RNumB at h
 simp[World.frozen?,h]
theorem RNumB.below{N:Nat}(h:RNumB w p neg A n c)(hb:Below N w w')(hg:p<N):RNumB w' p neg A n c:=(hb.block p hg).trans h
theorem RNumB.here(h:RNumB w p neg A n c)(hb:Below w.heap.size w w'):RNumB w' p neg A n c:=h.below hb h.lt
theorem RNumB.new(w:World)(neg:Bool)(A:Option Addr)(n c:Nat):RNumB (w.alloc (.cells #[.bool neg,.slice A n c] 126)) w.heap.size neg A n c:=heap_alloc_new w _
theorem RNumB.far(h:RNumB w p neg A n c){a:Addr}(hp:p≠a.block)(u:Value):RNumB (w.setCell a u) p neg A n c:=(Below.heap_setCell w a u p hp).trans h
theorem RNumB.set1{A':Option Addr}{n' c':Nat}(h:RNumB w p neg A n c):RNumB (w.setCell ⟨p,1,none⟩ (.slice A' n' c')) p neg A' n' c':=by
 unfold RNumB at h ⊢
 rw[heap_setCell_same w p 1 _ 126 _ h]
 rfl
theorem RNumB.alloc(h:RNumB w p neg A n c)(o:Obj):RNumB (w.alloc o) p neg A n c:=(Below.heap_alloc w o p h.lt).trans h
theorem RNumB.grown{row:Option Nat}(h:RNumB w p neg A n c)(hg:w.grownBy w' row)(hr:∀g,row=some g→p≠g):RNumB w' p neg A n c:=(hg.block p h.lt (fun e=>hr p e.symm rfl)).trans h
end
def RReadPost(a:List UInt8)(w:World)(e:Ending)(w':World):Prop:=
 ∃A n c xs,e=.returned (.agg #[.bool (digL a).2,.slice A n c])∧Gi w' w'.heap.size A n xs∧n≤c∧Mag xs (valD (digL a).1)∧Below w.heap.size w w'
theorem Zlr{s:List UInt8}{lo i:Nat}{b:UInt8}(h:s[i]?=some b)(hlo:lo≤i):valD ((s.take (i+1)).drop lo)=10*valD ((s.take i).drop lo)+(b.toNat-48):=by
 obtain⟨hi,rfl⟩:=List.getElem?_eq_some_iff.1 h
 rw[List.take_succ_eq_append_getElem hi,List.drop_append_of_le_length (by rw[List.length_take];omega),ZbG]
theorem Zg5{s:List UInt8}(hd:s.all isDig=true)(lo i:Nat)(h9:i≤lo+9):valD ((s.take i).drop lo)<1000000000:=by
 have h:((s.take i).drop lo).all isDig=true:=by
  rw[List.all_eq_true] at hd ⊢
  exact fun x hx=>hd x (List.mem_of_mem_take (List.mem_of_mem_drop hx))
 have h1:=ZaT h
 have h2:10^((s.take i).drop lo).length≤10^9:=Nat.pow_le_pow_right (by omega) (by rw[List.length_drop,List.length_take];omega)
 omega
theorem ZbL(a:List UInt8)(w:World)(ha:a.length≤1000000):Calls Tryz.prog 97 #[S a] w (RReadPost a w):=by
 have hb0:Below w.heap.size w (w.alloc (.cells #[.bool false,.slice none 0 0] 126)):=(Below.refl _ _).alloc (Nat.le_refl _) _
 have HDG:=hdz (Zax a (w.alloc (.cells #[.bool false,.slice none 0 0] 126)) (by omega))
 obtain⟨hd,hz,_⟩:=ZaU a
 have hl:=ZaH a
 have HP:=hdz (show RReadPost a w=fun e w'=>∃A n c xs,e=.returned (.agg #[.bool (digL a).2,.slice A n c])∧Gi w' w'.heap.size A n xs∧n≤c∧Mag xs (valD (digL a).1)∧Below w.heap.size w w' from rfl)
 generalize RReadPost a w=post at*
 generalize (digL a).1=s at*
 generalize (digL a).2=neg at*
 have hsl:s.length≤1000000:=by omega
 have HD:=hdz hd;have HZ:=hdz hz;have HB0:=hdz hb0
 have HR0:=hdz (RNumB.new w false none 0 0)
 clear hd hz hl hb0
 unfold S at*
 go_enter Tryz.func97,Tryz.ntmps97
 go_wp2_with (go_at_call 115;refine HDG.out.mono ?_;rintro e w1 ⟨rfl,rfl⟩)
 have hR1:RNumB ((w.alloc (.cells #[.bool false,.slice none 0 0] 126)).alloc (.cells #[.bool neg,.slice none 0 0] 126)) (w.heap.size+1) neg none 0 0:=by
  have:=RNumB.new (w.alloc (.cells #[.bool false,.slice none 0 0] 126)) neg none 0 0
  simp only[World.size_alloc] at this
  exact this
 have HRZ:=hdz (HR0.out.alloc (.cells #[.bool neg,.slice none 0 0] 126))
 have HR1:=hdz hR1;clear hR1
 have hbA:Below w.heap.size w ((w.alloc (.cells #[.bool false,.slice none 0 0] 126)).alloc (.cells #[.bool neg,.slice none 0 0] 126)):=((Below.refl _ _).alloc (Nat.le_refl _) _).alloc (by simp) _
 have hsz0:w.heap.size+2≤((w.alloc (.cells #[.bool false,.slice none 0 0] 126)).alloc (.cells #[.bool neg,.slice none 0 0] 126)).heap.size:=by simp
 generalize (w.alloc (.cells #[.bool false,.slice none 0 0] 126)).alloc (.cells #[.bool neg,.slice none 0 0] 126)=W1 at*
 go_loopw [6] (fun i wr=>∃(j co:Nat) (ei:Int) (Ao:Option Addr) (gs:List Nat),j≤1000000∧i=.int .i64 ei∧Hid (ei=(s.length:Int)-9*j)∧Hid (RNumB wr w.heap.size false none 0 0)∧Hid (RNumB wr (w.heap.size+1) neg Ao j co)∧Hid (Own G1 1 3 wr (w.heap.size+2) (.slice Ao j co) gs)∧Hid (RInv s j gs)∧Hid (9*j≤s.length+8)∧Hid (w.heap.size+2≤wr.heap.size)∧Below w.heap.size w wr) (fun i _=>(intOf i).toNat)
 case atStart=>exact⟨0,0,_,none,[],by omega,rfl,by show _=_;simp,HRZ,HR1,Own.nil,RInv.zero s,by show _≤_;omega,hsz0,hbA⟩
 case round=>
  clear HRZ HR1 HR0 hbA hsz0 HDG
  obtain⟨j,co,ei,Ao,gs,hj,rfl,HE,HRZ,HRN,HO,HI,HJ,HSZ,hb⟩:=hrel
  by_cases hlt:9*j<s.length
  ·have HR:=hdz (HI.out.step HD.out HZ.out hlt)
   obtain⟨en,hen⟩:∃en:Nat,ei=en:=⟨ei.toNat,by have:=HE.out;omega⟩
   subst hen
   have hep:0<en:=by have:=HE.out;omega
   have hel:en≤s.length:=by have:=HE.out;omega
   obtain⟨lo,hlo⟩:∃lo:Nat,lo=en-9:=⟨_,rfl⟩
   have hmx:max 0 ((en:Int)-9)=(lo:Int):=by omega
   have hle:lo≤en:=by omega
   have hlo9:en≤lo+9:=by omega
   have HGO:=hdz (show(s.take en).drop lo=grpOf s j by
    unfold grpOf;have h1:=HE.out
    rw[show en=s.length-9*j by omega,show lo=s.length-9*(j+1) by omega])
   clear hlo
   have HIL:=hdz HI.out.len
   go_wp2_with fail
   go_loop [7,8] (fun n i=>∃(k m:Nat),lo≤k∧k≤en∧i=.int .i64 k∧n=.int .i64 m∧m<1000000000∧Hid (m=valD ((s.take k).drop lo))) (fun _ i=>en-(intOf i).toNat)
   case atStart=>exact⟨lo,0,Nat.le_refl _,hle,rfl,rfl,by omega,by show _=_;rw[List.drop_of_length_le (by rw[List.length_take];omega)];rfl⟩
   case round=>
    obtain⟨k,m,hk1,hk2,rfl,rfl,hm,HM⟩:=hrel
    by_cases hke:k<en
    ·obtain⟨b,hbb⟩:∃b,s[k]?=some b:=⟨_,List.getElem?_eq_getElem (by omega)⟩
     have hks:k<(⟨s.toArray⟩:ByteArray).size:=by rw[Zag];omega
     have hbk:(⟨s.toArray⟩:ByteArray)[k]=b:=Zeu hbb hks
     obtain⟨h1,h2⟩:=(Zao b).1 (by have:=HD.out;rw[List.all_eq_true] at this;exact this b (List.mem_of_getElem? hbb))
     have HST:=hdz (Zlr (lo:=lo) hbb hk1)
     have hm2:=Zg5 HD.out lo (k+1) (by omega)
     rw[HST.out,←HM.out] at hm2
     have hkl:k<s.length:=by omega
     clear hbb
     go_wp2
     go_round
     case rel=>exact⟨k+1,10*m+(b.toNat-48),by omega,by omega,by go_num,by rw[show((10*m+(b.toNat-48):Nat):Int)=10*(m:Int)+((b.toNat:Int)-48) by omega],hm2,by show _=_;rw[HST.out,←HM.out]⟩
     case measure=>simp[intOf];omega
    ·obtain rfl:k=en:=by omega
     have HMV:=hdz (show m=valD (grpOf s j) by rw[←HGO.out];exact HM.out)
     rw[←HMV.out] at HR
     have hked:decide (k<k)=false:=by simp
     obtain⟨c0,c1⟩:=HRN.out.cells
     obtain⟨q1,q2,q3,hf⟩:=HO.out.facts;clear q1 q2 q3
     have HF:=hdz hf;clear hf
     have HRA:=hdz (HRN.out.alloc (.cells #[.int .i64 m] 3))
     go_wp2_with (at_builtin;refine Zap _ rfl (.tmp 39) (.tmp 41) _ rfl Zdd Zav Zgl (base:=w.heap.size+2) (.slice Ao j co) gs rfl (HO.out.alloc _) _ _ 1 1 [m] rfl (Sl.lit wr #[.int .i64 m] 3 [m] rfl Zav) (by rw[HIL.out];omega) (by have:=HSZ.out;simp;omega) ?_;intro A4 c4 w4 ho4 hg4 hat4
                  rw[HIL.out] at ho4 ⊢
                  have hrow:∀g,(Value.slice Ao j co).ownBlock=some g→w.heap.size+2≤g:=fun g e=>by
                   rcases HF.out with ⟨h,_⟩|⟨g',h,hg1,hg2⟩
                   ·rw[h] at e;simp[Value.ownBlock] at e
                   ·rw[h] at e;simp[Value.ownBlock] at e;omega
                  have hRN4:=HRA.out.grown hg4 (fun g e=>by have:=hrow g e;omega)
                  have c4a:=hRN4.cells.1;have c4b:=hRN4.cells.2;have f4a:=hRN4.frozen 0;have f4b:=hRN4.frozen 1)
     have HR4:=hdz hRN4;have HO4:=hdz ho4;have HROW:=hdz hrow
     have HZ4:=hdz ((HRZ.out.alloc (.cells #[.int .i64 m] 3)).grown hg4 (fun g e=>by have:=HROW.out g e;omega))
     have hb4:Below w.heap.size w w4:=Zae (hb.alloc hb.size _) hg4 (by have:=hb.size;simp;omega) (fun g e=>by have:=HROW.out g e;omega)
     have HS4:=hdz (show w.heap.size+2≤w4.heap.size by have h1:=hg4.size;have h2:=HSZ.out;simp at h1;omega)
     clear hRN4 ho4 hrow hg4 hat4 c4a c4b f4a f4b c0 c1
     go_roundw
     case rel=>
      refine⟨j+1,c4,(k:Int)-9,A4,gs++[m],by have:=HE.out;omega,rfl,by show _=_;have:=HE.out;omega,HZ4.out.far (by simp) _,HR4.out.set1,?_,HR,by show _≤_;omega,?_,hb4.setCell (p:=⟨w.heap.size+1,1,none⟩) (by simp only;omega) _⟩
      ·refine HO4.out.far ?_ _
       rcases HO4.out.facts.2.2.2 with ⟨h,_⟩|⟨g,h,hg1,_⟩
       ·rw[h];simp[Value.ownBlock]
       ·rw[h];simp only[Value.ownBlock];intro e;injection e with e;omega
      ·show _≤_
       have:=HS4.out;simp;omega
     case measure=>simp[intOf];omega
  ·have hei:ei≤0:=by have:=HE.out;omega
   obtain⟨c0,c1⟩:=HRN.out.cells
   obtain⟨z0,z1⟩:=HRZ.out.cells
   have f0:=HRZ.out.frozen 0;have f1:=HRZ.out.frozen 1
   go_wp2_with fail
   rw[HP.out]
   have hne:(Value.slice Ao j co).ownBlock≠some w.heap.size:=by
    rcases HO.out.facts.2.2.2 with ⟨h,_⟩|⟨g,h,hg1,hg2⟩
    ·rw[h];simp[Value.ownBlock]
    ·rw[h];simp only[Value.ownBlock];intro h;injection h with h;omega
   refine bodyPost_ret (v:=.agg #[.bool neg,.slice Ao j co]) (by simp[results,Tryz.results97,go_sem,z0,z1]) rfl ⟨Ao,j,co,gs,rfl,?_,?_,?_,?_⟩
   ·exact((HO.out.far hne _).far hne _).sl Zav
   ·have h1:=HO.out.facts.2.1;have h2:=HO.out.facts.1;omega
   ·exact⟨HI.out.ok,HI.out.nz (by omega),by rw[HI.out.val,show s.length-9*j=0 by omega];rfl⟩
   ·exact(hb.setCell (p:=⟨w.heap.size,0,none⟩) (Nat.le_refl _) _).setCell (p:=⟨w.heap.size,1,none⟩) (Nat.le_refl _) _
end
end Go.Proofs.YtpnncoinlopndaaGreatDoor
