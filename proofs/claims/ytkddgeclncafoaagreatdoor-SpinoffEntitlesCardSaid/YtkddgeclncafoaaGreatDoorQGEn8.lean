/- R2, R3. -/
import Derived.Test.YtkddgeclncafoaaGreatDoorQGEn2
import Derived.Test.YtkddgeclncafoaaGreatDoorQGEn41
set_option maxRecDepth 20000
set_option maxHeartbeats 1000000
namespace Go.Proofs.YtkddgeclncafoaaGreatDoor
open Go.Lib renaming hid→jq
open Go.RowKit Go.Shelf
section
def G1(x:Nat):List Value:=[.int .i64 x]
theorem QU(x:Nat):(G1 x).length=1:=rfl
theorem ZcP(x:Nat):∀u∈G1 x,u.oneCell'=true:=by simp[G1,Value.oneCell']
abbrev Gi(w:World)(B:Nat)(A:Option Addr)(n:Nat)(xs:List Nat):Prop:=Sl G1 1 w B A n xs
theorem Sl.gri{w:World}{B:Nat}{A:Option Addr}{n:Nat}{xs:List Nat}{i:Nat}(h:Gi w B A n xs)(hi:i<n):
 ∃b off x,A=some ⟨b,off,none⟩/\b<B/\xs[i]?=some x/\w.cell? ⟨b,off+i,none⟩=some (.int .i64 x):=by
 obtain⟨b,off,x,hA,hb,hx,hc⟩:=h.at_ hi
 exact⟨b,off,x,hA,hb,hx,by have:=hc 0 _ rfl;simpa using this⟩
theorem JU:Jz Tryz.prog 99 3 1 8:=VQ Tryz.underlying99 (by kernel_rfl) (by decide) (by decide)
theorem Jh(A:Option Addr)(n c:Nat)(xs:List Nat)(w:World)(hr:Gi w w.1.size A n xs)(hc:n<=c)(hn:n<=1000000000):
 Calls Tryz.prog 173 #[.slice A n c] w (ZhZ A n c xs w):=by
 have HXN:=jq hr.1;have HR:=jq hr;clear hr;go_enter Tryz.func173,Tryz.ntmps173
 go_wp2
 go_loop [0] (fun v=>∃j:Nat,v=.slice A j c/\j<=n/\Hid (gv (xs.take j)=gv xs)) (fun v=>match v with| .slice _ j _=>j|_=>0)
 case atStart=>exact⟨n,rfl,Nat.le_refl _,by show _=_;rw[List.take_of_length_le (by rw[<-HXN.out];omega)]⟩
 case round=>
  obtain⟨j,rfl,hj,HG⟩:=hrel
  by_cases h0:j=0
  ·subst h0
   go_wp2
   go_ret
   exact⟨0,rfl,Nat.zero_le _,HG.out,by unfold Nz;simp,rfl⟩
  ·obtain⟨j',rfl⟩:∃j',j=j'+1:=⟨j-1,by omega⟩
   obtain⟨b,off,x,rfl,hb,hx,d0⟩:=HR.out.gri (i:=j') (by omega)
   have HX:=jq hx;clear hx;have hj1:0<=(j':Int):=by omega
   have hj2:j'<=c:=by omega
   by_cases hx0:x=0
   ·have hxb:((x:Int)==0)=true:=by simp[hx0]
    have HG2:=jq (show gv (xs.take j')=gv xs by rw[<-HG.out,Yb xs j' x HX.out,hx0];simp);clear hx0
    go_wp2
    go_round
    case rel=>exact⟨j',rfl,by omega,HG2⟩
    case measure=>simp
   ·have hxb:((x:Int)==0)=false:=by simp;omega
    have HZ:=jq (Zh0 HX.out hx0);clear hx0
    go_wp2
    go_ret
    exact⟨j'+1,rfl,hj,HG.out,HZ.out,rfl⟩
theorem Js(A:Option Addr)(n c:Nat)(xs:List Nat)(i:Nat)(w:World)(hr:Gi w w.1.size A n xs)(_hn:n<=1000000000)(_hi:i<=1000000000):
 Calls Tryz.prog 172 #[.slice A n c,.int .i64 i] w fun e w'=>e=.returned (.int .i64 (VC xs i))/\w=w':=by
 by_cases h:i<n
 ·obtain⟨b,off,x,rfl,hb,hx,d0⟩:=hr.gri h
  have HG:=jq (show VC xs i=x by unfold VC;simp[List.getD,hx]);clear hx hr;go_enter Tryz.func172,Tryz.ntmps172
  go_wp2
  go_ret
  rw[HG.out];exact⟨rfl,rfl⟩
 ·have HG:=jq (show VC xs i=0 by unfold VC;simp[List.getD];rw[List.getElem?_eq_none (by rw[<-hr.1];omega)];rfl);have hd:decide (i<n)=false:=by simpa using h
  clear hr h;go_enter Tryz.func172,Tryz.ntmps172
  go_wp2
  go_ret
  rw[HG.out];exact⟨rfl,rfl⟩
def ZeN(u v:Nat)(w:World)(e:Ending)(w':World):Prop:=e=.returned (.int .i64 (Qt ((u:Int)-v)))/\Below w.1.size w w'
theorem ZkX{u v:Nat}(h:u<v):Qt ((u:Int)-v)= -1:=by unfold Qt;rw[if_pos (by omega)]
theorem ZkY{u v:Nat}(h:v<u):Qt ((u:Int)-v)=1:=by unfold Qt;rw[if_neg (by omega),if_pos (by omega)]
theorem Zn5{u v:Nat}(h:u=v):Qt ((u:Int)-v)=0:=by unfold Qt;rw[if_neg (by omega),if_neg (by omega)]
theorem ZcQ(A A':Option Addr)(n m c c':Nat)(xs ys:List Nat)(u v:Nat)(w:World)(hx:Gi w w.1.size A n xs)(hy:Gi w w.1.size A' m ys)(mx:Mag xs u)(my:Mag ys v)(hn:n<=1000000)(hm:m<=1000000):
 Calls Tryz.prog 123 #[.slice A n c,.slice A' m c'] w (ZeN u v w):=by
 have HXN:=jq hx.1;have HYN:=jq hy.1;have HX:=jq hx;have HY:=jq hy;have HMX:=jq mx;have HMY:=jq my;have HPO:=jq (show ZeN u v w=fun e w'=>e=.returned (.int .i64 (Qt ((u:Int)-v)))/\Below w.1.size w w' from rfl);generalize ZeN u v w=post at*;clear hx hy mx my
 by_cases hnm:n=m
 ·obtain rfl:n=m:=hnm;have hne:((n:Int) !=(n:Int))=false:=by simp
  go_enter Tryz.func123,Tryz.ntmps123
  go_wp2
  go_loopw [5] (fun i wr=>∃(k:Nat) (ii:Int),i=.int .i64 ii/\Hid (ii=(k:Int)-1)/\k<=n/\Hid (xs.drop k=ys.drop k)/\Below w.1.size w wr) (fun i _=>(intOf i+1).toNat)
  case atStart=>exact⟨n,_,rfl,by show _=_;rfl,Nat.le_refl _,by show _=_;rw[List.drop_of_length_le (by rw[<-HXN.out];omega),List.drop_of_length_le (by rw[<-HYN.out];omega)],Below.refl _ _⟩
  case round=>
   obtain⟨k,ii,rfl,HII,hk,HD,hb⟩:=hrel
   by_cases hk0:k=0
   ·subst hk0;have hi:ii<0:=by have:=HII.out;omega
    have HE:=jq (show u=v by
     have:=HD.out
     rw[List.drop_zero,List.drop_zero] at this;rw[<-HMX.out.val,<-HMY.out.val,this])
    go_wp2
    rw[HPO.out,Zn5 HE.out];exact⟨rfl,hb⟩
   ·obtain⟨k',rfl⟩:∃k',k=k'+1:=⟨k-1,by omega⟩
    obtain rfl:ii=(k':Int):=by have:=HII.out;omega
    obtain⟨b1,o1,x,rfl,hl1,hx,d1⟩:=HX.out.gri (i:=k') (by omega)
    obtain⟨b2,o2,y,rfl,hl2,hy,d2⟩:=HY.out.gri (i:=k') (by omega)
    have d1':=(hb.cell (p:=⟨b1,o1+k',none⟩) hl1).trans d1;have d2':=(hb.cell (p:=⟨b2,o2+k',none⟩) hl2).trans d2;have HGX:=jq hx;have HGY:=jq hy;clear d1 d2 hx hy
    by_cases hlt:x<y
    ·have HL:=jq (Za3 HMX.out.gs HGX.out HGY.out HD.out hlt);rw[HMX.out.val,HMY.out.val] at HL
     go_wp2
     go_quiet (fail)
     go_wp2
     rw[HPO.out,ZkX HL.out];exact⟨rfl,bdN hb nq⟩
    ·have hlt':decide (x<y)=false:=by simpa using hlt
     by_cases hgt:y<x
     ·have HL:=jq (Za3 HMY.out.gs HGY.out HGX.out HD.out.symm hgt);rw[HMX.out.val,HMY.out.val] at HL;clear hlt
      go_wp2
      go_quiet (fail)
      have d1'':(wr.drewN nq).cell? ⟨b1,o1+k',none⟩=some (.int .i64 x):=d1';have d2'':(wr.drewN nq).cell? ⟨b2,o2+k',none⟩=some (.int .i64 y):=d2';have hb':=bdN hb nq;clear d1' d2' hb;generalize wr.drewN nq=wq at*
      go_wp2
      go_quiet (fail)
      go_wp2
      rw[HPO.out,ZkY HL.out];exact⟨rfl,bdN hb' _⟩
     ·have hgt':decide (y<x)=false:=by simpa using hgt
      obtain rfl:x=y:=by omega
      have HD2:=jq (show xs.drop k'=ys.drop k' by
       obtain⟨l1,e1⟩:=List.getElem?_eq_some_iff.1 HGX.out
       obtain⟨l2,e2⟩:=List.getElem?_eq_some_iff.1 HGY.out
       rw[List.drop_eq_getElem_cons l1,List.drop_eq_getElem_cons l2,e1,e2,HD.out])
      clear hlt hgt
      go_wp2
      go_quiet (fail)
      have d1'':(wr.drewN nq).cell? ⟨b1,o1+k',none⟩=some (.int .i64 x):=d1';have d2'':(wr.drewN nq).cell? ⟨b2,o2+k',none⟩=some (.int .i64 x):=d2';have hb':=bdN hb nq;clear d1' d2' hb;generalize wr.drewN nq=wq at*
      go_wp2
      go_quiet (fail)
      go_wp2
      go_roundw
      case rel=>exact⟨k',(k':Int)-1,rfl,by show _=_;rfl,by omega,HD2,bdN hb' _⟩
      case measure=>simp[intOf]
 ·have hne:((n:Int) !=(m:Int))=true:=by simp;omega
  by_cases hlt:n<m
  ·have HL:=jq (Xn HMX.out HMY.out (by rw[<-HXN.out,<-HYN.out];omega));have hd:decide (n<m)=true:=by simpa using hlt
   clear hnm;go_enter Tryz.func123,Tryz.ntmps123
   go_wp2
   rw[HPO.out,ZkX HL.out];exact⟨rfl,Below.refl _ _⟩
  ·have HL:=jq (Xn HMY.out HMX.out (by rw[<-HXN.out,<-HYN.out];omega));have hd:decide (n<m)=false:=by simpa using hlt
   clear hnm;go_enter Tryz.func123,Tryz.ntmps123
   go_wp2
   rw[HPO.out,ZkY HL.out];exact⟨rfl,Below.refl _ _⟩
end
section
structure RPInv (xs ys:List Nat) (i carry:Nat) (os:List Nat):Prop where
 len:os.length=i
 val:gv os+1000000000^i*carry=gv (xs.take i)+gv (ys.take i)
 gs:Gs os
 one:carry<=1
theorem RPInv.zero(xs ys:List Nat):RPInv xs ys 0 0 []:=⟨rfl,by simp[gv],Gs.nil,by omega⟩
theorem RPInv.step{xs ys os:List Nat}{i carry:Nat}(h:RPInv xs ys i carry os)(hgx:Gs xs)(hgy:Gs ys):
 RPInv xs ys (i+1) ((VC xs i+VC ys i+carry)/1000000000) (os++[(VC xs i+VC ys i+carry)%1000000000]):=by
 have h1:=ZaK hgx i;have h2:=ZaK hgy i;have h3:=h.one;refine⟨by rw[List.length_append,h.len];rfl,?_,h.gs.snoc (by omega),by omega⟩;rw[YB,h.len,Jf xs i,Jf ys i];have hv:=h.val;generalize hs:VC xs i+VC ys i+carry=s at*
 have e:1000000000^i*(s%1000000000)+1000000000^(i+1)*(s/1000000000)=1000000000^i*s:=by
  rw[Nat.pow_succ,Nat.mul_assoc,<-Nat.mul_add]
  congr 1
  omega
 have e2:1000000000^i*s=1000000000^i*VC xs i+1000000000^i*VC ys i+1000000000^i*carry:=by rw[<-hs,Nat.mul_add,Nat.mul_add]
 omega
theorem RPInv.done{xs ys os:List Nat}{i:Nat}(h:RPInv xs ys i 0 os)(hx:xs.length<=i)(hy:ys.length<=i):gv os=gv xs+gv ys:=by
 have hv:=h.val;rw[List.take_of_length_le hx,List.take_of_length_le hy] at hv;simpa using hv
theorem ZeO{xs:List Nat}{i:Nat}(h:xs.length<=i):VC xs i=0:=by
 unfold VC;simp[List.getD,List.getElem?_eq_none h]
def Yh(v:Nat)(w:World)(e:Ending)(w':World):Prop:=∃A n c xs,e=.returned (.slice A n c)/\Gi w' w'.1.size A n xs/\n<=c/\Mag xs v/\Below w.1.size w w'
theorem Zjb(A A':Option Addr)(n m c c':Nat)(xs ys:List Nat)(u v:Nat)(w:World)(hx:Gi w w.1.size A n xs)(hy:Gi w w.1.size A' m ys)(mx:Mag xs u)(my:Mag ys v)(hn:n<=1000000)(hm:m<=1000000):
 Calls Tryz.prog 122 #[.slice A n c,.slice A' m c'] w (Yh (u+v) w):=by
 have HX:=jq hx;have HY:=jq hy;have HMX:=jq mx;have HMY:=jq my;have HXN:=jq hx.1;have HYN:=jq hy.1;have HPO:=jq (show Yh (u+v) w=fun e w'=>∃A n c xs,e=.returned (.slice A n c)/\Gi w' w'.1.size A n xs/\n<=c/\Mag xs (u+v)/\Below w.1.size w w' from rfl);generalize Yh (u+v) w=post at*;clear hx hy mx my;have HO0:=jq (Own.lit (enc:=G1) (k:=1) (base:=w.1.size) w #[] 3 [] rfl QU (Nat.le_refl _) (by simp));go_enter Tryz.func122,Tryz.ntmps122
 go_wp2_with fail
 go_loopw [5,6,7] (fun o cy i wr=>∃(k carry co:Nat) (Ao:Option Addr) (os:List Nat),i=.int .i64 k/\cy=.int .i64 carry/\o=.slice Ao k co/\carry<=1/\k<=n+m+1/\Hid (n<=k->m<=k->n+m<k->carry=0)/\Hid (RPInv xs ys k carry os)/\Hid (Own G1 1 3 wr w.1.size (.slice Ao k co) os)/\Below w.1.size w wr) (fun _ _ i _=>n+m+1-(intOf i).toNat)
 case atStart=>exact⟨0,0,0,_,[],rfl,rfl,rfl,by omega,by omega,by show _->_->_->_;intros;rfl,RPInv.zero xs ys,HO0,(Below.refl _ _).alloc (Nat.le_refl _) _⟩
 case round=>
  clear HO0;obtain⟨k,carry,co,Ao,os,rfl,rfl,rfl,hcy,hk,HZ,HI,HO,hb⟩:=hrel
  obtain⟨bb,hbb⟩:∃bb:Bool,bb=decide (k<n\/k<m\/0<carry):=⟨_,rfl⟩
  have HBB:=jq hbb;clear hbb;go_upto_region 4 with (fail)
  go_cut [23] (fun s wc=>s=.bool bb/\wc=wr)
  case first=>
   by_cases h1:k<n
   ·have hd:decide (k<n)=true:=by simpa using h1
    go_wp2_with fail
    go_meet
    exact⟨by rw[HBB.out];simp[h1],rfl⟩
   ·have hd:decide (k<n)=false:=by simpa using h1
    by_cases h2:k<m
    ·have hd2:decide (k<m)=true:=by simpa using h2
     go_wp2_with fail
     go_meet
     exact⟨by rw[HBB.out];simp[h2],rfl⟩
    ·have hd2:decide (k<m)=false:=by simpa using h2
     by_cases h3:0<carry
     ·have hd3:decide (0<carry)=true:=by simpa using h3
      go_wp2_with fail
      go_meet
      exact⟨by rw[HBB.out];simp[h3],rfl⟩
     ·have hd3:decide (0<carry)=false:=by simpa using h3
      go_wp2_with fail
      go_meet
      exact⟨by rw[HBB.out];simp[h1,h2,h3],rfl⟩
  case rest=>
  obtain⟨rfl,hwc⟩:=hcut
  obtain⟨w1,rfl⟩:∃W,W=wc:=⟨_,rfl⟩
  subst hwc
  cases bb with
  |true=>
   have hgo:k<n\/k<m\/0<carry:=by have:=HBB.out;simpa using this
   have hkl:k<=n+m:=by
    rcases Nat.lt_or_ge (n+m) k with h|h
    ·have:=HZ.out (by omega) (by omega) h;omega
    ·exact h
   have HGX:=jq (Js A n c xs k w1 (HX.out.here hb) (by omega) (by omega));have HGY:=jq (Js A' m c' ys k w1 (HY.out.here hb) (by omega) (by omega));have hx9:=ZaK HMX.out.gs k;have hy9:=ZaK HMY.out.gs k;have HST:=jq (HI.out.step HMX.out.gs HMY.out.gs)
   have HZ2:=jq (show n<=k+1->m<=k+1->n+m<k+1->(VC xs k+VC ys k+carry)/1000000000=0 by
    intro _ _ h;rw[ZeO (by rw[<-HXN.out];omega),ZeO (by rw[<-HYN.out];omega)];omega)
   generalize VC xs k=gx at*;generalize VC ys k=gy at*;obtain⟨s,hs⟩:∃s,s=gx+gy+carry:=⟨_,rfl⟩
   rw[<-hs] at HST HZ2;have hsi:(gx:Int)+(gy:Int)+(carry:Int)=(s:Int):=by omega
   have hsl:s<=1999999999:=by omega
   clear hs hgo HBB;have HIL:=jq HI.out.len;obtain⟨q1,q2,q3,hf⟩:=HO.out.facts;clear q1 q2 q3
   have HF:=jq hf;clear hf;go_wp2_with fail
   (with_reducible refine HGX.out.mono ?_)
   rintro e w2 ⟨rfl,rfl⟩;go_wp2_with fail
   (with_reducible refine HGY.out.mono ?_)
   rintro e w2 ⟨rfl,rfl⟩;obtain⟨sr,hsr⟩:∃sr,sr=s%1000000000:=⟨_,rfl⟩
   have hsm:(s:Int)%1000000000=(sr:Int):=by omega
   rw[<-hsr] at HST;clear hsr;go_wp2_with (at_builtin;refine Xa _ rfl (.tmp 35) (.tmp 38) _ rfl JU QU ZcP (base:=w.1.size) (.slice Ao k co) os rfl (HO.out.alloc _) _ _ 1 1 [sr] rfl (Sl.lit w1 #[.int .i64 sr] 3 [sr] rfl QU) (by rw[HIL.out];omega) (by have:=hb.size;simp;omega) ?_;intro A4 c4 w4 ho4 hg4 hat4;rw[HIL.out] at ho4 ⊢)
   have hb4:Below w.1.size w w4:=Qy (hb.alloc hb.size _) hg4 (by have:=hb.size;simp;omega) (fun g' e=>by
    rcases HF.out with ⟨rfl,_⟩|⟨g,rfl,hg1,hg2⟩
    ·simp[Value.ownBlock] at e
    ·simp[Value.ownBlock] at e;omega)
   have HO4:=jq ho4;clear ho4 hg4 hat4
   go_roundw
   case rel=>exact⟨k+1,s/1000000000,c4,A4,os++[sr],by go_num,by go_num,rfl,by omega,by omega,HZ2,HST,HO4,hb4⟩
   case measure=>simp[intOf];omega
  |false=>
   have hno:¬(k<n\/k<m\/0<carry):=by have:=HBB.out;simpa using this
   obtain rfl:carry=0:=by omega
   have HV:=jq (HI.out.done (by rw[<-HXN.out];omega) (by rw[<-HYN.out];omega));rw[HMX.out.val,HMY.out.val] at HV;have HOF:=jq HO.out.facts;have HTR:=jq (Jh Ao k co os w1 (HO.out.sl QU) (by have:=HOF.out.2.1;have:=HOF.out.1;omega) (by omega));clear hno HBB HZ;go_wp2_with fail
   (with_reducible refine HTR.out.mono ?_)
   rintro e w3 ⟨j,rfl,hj,hgv,hnz,rfl⟩;go_wp2_with fail
   rw[HPO.out];exact⟨Ao,j,co,os.take j,rfl,(HO.out.sl QU).take hj,by have:=HOF.out.2.1;have:=HOF.out.1;omega,⟨HI.out.gs.take j,hnz,by rw[hgv];exact HV.out⟩,hb⟩
end
end Go.Proofs.YtkddgeclncafoaaGreatDoor
