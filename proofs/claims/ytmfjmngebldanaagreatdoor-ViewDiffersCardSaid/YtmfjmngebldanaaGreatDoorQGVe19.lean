/- R4, R5, R6, R8, R9, R10, R11. -/
import Derived.Test.YtmfjmngebldanaaGreatDoorQGVe17
import Derived.Test.YtmfjmngebldanaaGreatDoorQGVe3
set_option maxRecDepth 100000
set_option maxHeartbeats 2000000
namespace Go.Proofs.YtmfjmngebldanaaGreatDoor
open Go.Lib renaming hid→jq
open Go.RowKit Go.Shelf
section
def iV(x:Nat):Value:=.int .i64 x
theorem ZmO(xs:List Nat):xs.flatMap G1=xs.map iV:=by
 induction xs with
 |nil=>rfl
 |cons a xs ih=>rw[List.flatMap_cons,ih];rfl
theorem Zng:∃i,Tryz.prog.info? 3=some i/\i.zero=some (.int .i64 0)/\i.size=1/\i.bytes=8:=by
 have h:(Tryz.prog.info? 3).map (fun i=>(i.zero,i.size,i.bytes))=some (some (.int .i64 0),1,8):=by kernel_rfl
 cases hi:Tryz.prog.info? 3 with
 |none=>rw[hi] at h;cases h
 |some i=>
  rw[hi] at h;simp only[Option.map_some,Option.some.injEq,Prod.mk.injEq] at h;exact⟨i,rfl,h.1,h.2.1,h.2.2⟩
theorem Znh(k:Nat):(madeCells (Value.int .i64 0).cells k).toList=List.replicate k (Value.int .i64 0):=by
 apply List.ext_getElem?
 intro i;unfold madeCells
 by_cases hi:i<k
 ·simp[hi,Value.cells,Nat.mod_one]
 ·simp[hi]
theorem ZkC(w:World)(base n m:Nat)(L C:Int)(hL:L=(n:Int))(hC:C=(m:Int))(hnm:n<=m)(hm:m<=1000000000000)(hb:base<=w.1.size):
 ∃w',(Instr.makeSlice 128 (.int .i64 L) (.int .i64 C)).run Tryz.prog w=.ok (.slice (some ⟨w.1.size,0,none⟩) n m) w'/\Own G1 1 3 w' base (.slice (some ⟨w.1.size,0,none⟩) n m) (List.replicate n 0)/\Below w.1.size w w':=by
 subst hL;subst hC
 obtain⟨i,hi,hz,hs,hby⟩:=Zng
 have hr:=run_make (P:=Tryz.prog) w 128 3 i (.int .i64 0) Tryz.underlying128 hi hz .i64 .i64 n m (by omega) (by omega) (by rw[hby];omega) (by omega);simp only[Int.toNat_natCast] at hr;refine⟨_,hr,?_,(Below.refl _ _).alloc (Nat.le_refl _) _⟩;refine⟨by rw[ZmO,List.length_map,Nat.mul_one],.inr ⟨w.1.size,m,_,by simp,hb,heap_alloc_new w _,by simpa using hnm,by unfold maxLen;omega,by rw[size_madeCells,hs],?_⟩⟩;rw[Znh,hs,ZmO,List.length_replicate,List.map_replicate,Nat.mul_one,Nat.mul_one,List.take_replicate,Nat.min_eq_left hnm];rfl
theorem Own.setI{w:World}{base g n c i x y:Nat}{os:List Nat}(h:Own G1 1 3 w base (.slice (some ⟨g,0,none⟩) n c) os)(hi:os[i]?=some x):
 Own G1 1 3 (w.setCell ⟨g,i,none⟩ (.int .i64 y)) base (.slice (some ⟨g,0,none⟩) n c) (os.set i y):=by
 have:=h.set_ QQ (i:=i) (j:=0) (x:=x) (y:=y) (u:=.int .i64 y) hi (by decide) rfl
 simpa using this
theorem Own.cellI{wr:World}{base g n c:Nat}{xs:List Nat}(h:Own G1 1 3 wr base (.slice (some ⟨g,0,none⟩) n c) xs){i x:Nat}(hi:xs[i]?=some x):wr.cell? ⟨g,i,none⟩=some (.int .i64 x):=by
 have hl:=(List.getElem?_eq_some_iff.1 hi).1;obtain⟨b,o,y,e,_,hy,hc⟩:=(h.sl QQ).gri (i:=i) (by rw[h.facts.1];exact hl)
 injection e with e;injection e with e1 e2;subst e1;subst e2
 rw[hi] at hy;injection hy with hy;subst hy;simpa using hc
def RT(xs ys os0:List Nat)(i x j carry:Nat)(os:List Nat):Prop:=(j<=ys.length/\TInv os0 ys i x j carry os)\/(j=ys.length+1/\carry=0/\TOut xs ys (i+1) os)
theorem RT.facts{xs ys os0 os:List Nat}{i x j carry:Nat}(h:RT xs ys os0 i x j carry os)(h0:TOut xs ys i os0)(_hx:xs[i]?=some x):Gs os/\os.length=xs.length+ys.length/\carry<1000000000/\j<=ys.length+1:=by
 rcases h with ⟨h1,h2⟩|⟨h1,h2,h3⟩
 ·exact⟨h2.gs,by rw[h2.len,h0.len],h2.lt,by omega⟩
 ·exact⟨h3.gs,h3.len,by omega,by omega⟩
theorem RT.step{xs ys os0 os:List Nat}{i x j carry o:Nat}(h:RT xs ys os0 i x j carry os)(h0:TOut xs ys i os0)(hx:xs[i]?=some x)(hx9:x<1000000000)(hgy:Gs ys)(hgo:j<ys.length\/0<carry)(ho:os[i+j]?=some o):
 j<=ys.length/\RT xs ys os0 i x (j+1) ((o+x*Va ys j+carry)/1000000000) (os.set (i+j) ((o+x*Va ys j+carry)%1000000000)):=by
 rcases h with ⟨h1,h2⟩|⟨h1,h2,h3⟩
 ·refine⟨h1,?_⟩
  by_cases hj:j<ys.length
  ·obtain⟨y,hy⟩:∃y,ys[j]?=some y:=⟨_,List.getElem?_eq_getElem hj⟩
   have hg:Va ys j=y:=by unfold Va;simp[List.getD,hy]
   have:=h2.step ho hy hx9 hgy
   rw[hg,show o+x*y+carry=carry+(o+x*y) by omega];exact .inl ⟨by omega,this⟩
  ·obtain rfl:j=ys.length:=by omega
   have h4:=h0.at_ (List.getElem?_eq_some_iff.1 hx).1 h2;rw[h4] at ho;injection ho with ho;subst ho;have hlt:=h2.lt;rw[Zed (Nat.le_refl _),show(0+x*0+carry)/1000000000=0 by rw[Nat.mul_zero];omega,show(0+x*0+carry)%1000000000=carry by rw[Nat.mul_zero];omega];exact .inr ⟨rfl,rfl,h0.next hx h2⟩
 ·exfalso;omega
theorem ZkD{os:List Nat}{i x:Nat}(h:os[i]?=some x):os.set i x=os:=by
 apply List.ext_getElem?
 intro j;rw[List.getElem?_set]
 split
 ·rename_i e;subst e;split
  ·exact h.symm
  ·rename_i h2;rw[List.getElem?_eq_none (by omega)]
 ·rfl
theorem RT.done{xs ys os0 os:List Nat}{i x j:Nat}(h:RT xs ys os0 i x j 0 os)(h0:TOut xs ys i os0)(hx:xs[i]?=some x)(hj:ys.length<=j):TOut xs ys (i+1) os:=by
 rcases h with ⟨h1,h2⟩|⟨_,_,h3⟩
 ·obtain rfl:j=ys.length:=by omega
  have h4:=h0.at_ (List.getElem?_eq_some_iff.1 hx).1 h2;have:=h0.next hx h2
  rwa [ZkD h4] at this
 ·exact h3
theorem Zaf(A A':Option Addr)(n m c c':Nat)(xs ys:List Nat)(u v:Nat)(w:World)(hx:Gi w w.1.size A n xs)(hy:Gi w w.1.size A' m ys)(mx:Mag xs u)(my:Mag ys v)(hn:n<=1000000)(hm:m<=1000000):
 Calls Tryz.prog 191 #[.slice A n c,.slice A' m c'] w (Yb (u*v) w):=by
 have HX:=jq hx;have HY:=jq hy;have HMX:=jq mx;have HMY:=jq my;have HXN:=jq hx.1;have HYN:=jq hy.1;have HPO:=jq (show Yb (u*v) w=fun e w'=>∃A n c xs,e=.returned (.slice A n c)/\Gi w' w'.1.size A n xs/\n<=c/\Mag xs (u*v)/\Below w.1.size w w' from rfl);generalize Yb (u*v) w=post at*;clear hx hy mx my;obtain⟨w1,hmk,ho1,hb1⟩:=ZkC w w.1.size (n+m) (n+m) ((n:Int)+m) ((n:Int)+m) (by omega) (by omega) (by omega) (by omega) (Nat.le_refl _)
 have HO1:=jq ho1;clear ho1;have HT0:=jq (TOut.start xs ys);rw[<-HXN.out,<-HYN.out] at HT0;go_enter Tryz.func191,Tryz.ntmps191
 go_wp2_with fail
 clear hmk
 go_loopw [6] (fun i wr=>∃(k:Nat) (os:List Nat),k<=n/\i=.int .i64 k/\Hid (TOut xs ys k os)/\Hid (Own G1 1 3 wr w.1.size (.slice (some ⟨w.1.size,0,none⟩) (n+m) (n+m)) os)/\Below w.1.size w wr) (fun i _=>n-(intOf i).toNat)
 case atStart=>exact⟨0,_,Nat.zero_le _,rfl,HT0,HO1,hb1⟩
 case round=>
  clear HT0 HO1 hb1;obtain⟨i,os0,hi,rfl,HT,HO0,hb0⟩:=hrel
  by_cases hlt:i<n
  ·obtain⟨xb,xo,x,rfl,hxb,hxi,d0⟩:=HX.out.gri hlt
   have hx9:=HMX.out.gs.at_ hxi;have HXI:=jq hxi;have HD0:=jq d0;clear hxi d0;have HZ:=jq (show RT xs ys os0 i x 0 0 os0 from .inl ⟨Nat.zero_le _,TInv.zero HT.out.gs⟩);go_wp2_with fail
   go_loopw [7,8] (fun cy k wr=>∃(j carry:Nat) (os:List Nat),k=.int .i64 j/\cy=.int .i64 carry/\carry<1000000000/\j<=m+1/\Hid (RT xs ys os0 i x j carry os)/\Hid (Own G1 1 3 wr w.1.size (.slice (some ⟨w.1.size,0,none⟩) (n+m) (n+m)) os)/\Below w.1.size w wr) (fun _ k _=>m+1-(intOf k).toNat)
   case atStart=>exact⟨0,0,os0,rfl,rfl,by omega,by omega,HZ,HO0,hb0⟩
   case round=>
    clear HZ HO0 hb0;obtain⟨j,carry,os,rfl,rfl,hcy,hj,HI,HO,hb⟩:=hrel
    obtain⟨bb,hbb⟩:∃bb:Bool,bb=decide (j<m\/0<carry):=⟨_,rfl⟩
    have HBB:=jq hbb;clear hbb;go_upto_region 7 with (fail)
    go_cut [29] (fun s wc=>s=.bool bb/\wc=wr)
    case first=>
     by_cases h1:j<m
     ·have hd:decide (j<m)=true:=by simpa using h1
      go_wp2_with fail
      go_meet
      exact⟨by rw[HBB.out];simp[h1],rfl⟩
     ·have hd:decide (j<m)=false:=by simpa using h1
      by_cases h3:0<carry
      ·have hd3:decide (0<carry)=true:=by simpa using h3
       go_wp2_with fail
       go_meet
       exact⟨by rw[HBB.out];simp[h3],rfl⟩
      ·have hd3:decide (0<carry)=false:=by simpa using h3
       go_wp2_with fail
       go_meet
       exact⟨by rw[HBB.out];simp[h1,h3],rfl⟩
    case rest=>
    obtain⟨rfl,hwc⟩:=hcut
    obtain⟨w2,rfl⟩:∃W,W=wc:=⟨_,rfl⟩
    subst hwc
    cases bb with
    |true=>
     have hgo:j<ys.length\/0<carry:=by have:=HBB.out;rw[<-HYN.out];simpa using this
     have hjm:j<=m:=by
      rcases HI.out with ⟨h1,_⟩|⟨h1,h2,_⟩
      ·rw[HYN.out];exact h1
      ·rcases hgo with h|h<;>omega
     obtain⟨o,ho⟩:∃o,os[i+j]?=some o:=⟨_,List.getElem?_eq_getElem (by rw[(HI.out.facts HT.out HXI.out).2.1,<-HXN.out,<-HYN.out];omega)⟩
     have ho9:=(HI.out.facts HT.out HXI.out).1.at_ ho;have HST:=jq (HI.out.step HT.out HXI.out hx9 HMY.out.gs hgo ho).2;have hy9:=JU HMY.out.gs j;have HGR:=jq (fun W (hb:Below w.1.size w W)=>VL A' m c' ys j W (HY.out.here hb) (by omega) (by omega));generalize Va ys j=gy at*;obtain⟨pj,hpj⟩:∃pj,pj=i+j:=⟨_,rfl⟩
     rw[<-hpj] at ho HST;have hpji:(i:Int)+(j:Int)=(pj:Int):=by omega
     have hpjl:pj<n+m:=by omega
     have f1:=HO.out.cellI ho;have f0:=HO.out.frozen pj;have d1:=(hb.cell (p:=⟨xb,xo+i,none⟩) hxb).trans HD0.out;have HOK:=jq ho;have hp:=ZbD hx9 hy9;obtain⟨p,hpe⟩:∃p,p=x*gy:=⟨_,rfl⟩
     rw[<-hpe] at hp HST;have hpi:(x:Int)*(gy:Int)=(p:Int):=by rw[hpe];simp
     obtain⟨s1,hs1⟩:∃s1,s1=o+p:=⟨_,rfl⟩
     obtain⟨s,hs⟩:∃s,s=s1+carry:=⟨_,rfl⟩
     have hs1i:(o:Int)+(p:Int)=(s1:Int):=by omega
     have hsi:(s1:Int)+(carry:Int)=(s:Int):=by omega
     have hs1l:s1<=999999999000000000:=by omega
     have hsl:s<=999999999999999999:=by omega
     rw[show o+p+carry=s by omega] at HST;clear ho hpe hpj hs hs1 hgo HBB;go_upto_region 9 with (fail)
     have iw0:IntKind.i64.wrap (pj:Int)=(pj:Int):=IntWalk.i64_in _ (by omega);have iw1:IntKind.i64.wrap (p:Int)=(p:Int):=IntWalk.i64_in _ (by omega);have iw2:IntKind.i64.wrap (s1:Int)=(s1:Int):=IntWalk.i64_in _ (by omega);have iw3:IntKind.i64.wrap (s:Int)=(s:Int):=IntWalk.i64_in _ (by omega)
     go_quiet ((go_at_call 216;exact Calls.quiet_of_same ((HGR.out _ (JI hb _)).mono (fun e w' h=>⟨h.1,h.2.symm⟩))))
     clear iw0 iw1 iw2 iw3;have f1':(w2.drewN nq).cell? ⟨w.1.size,pj,none⟩=some (.int .i64 o):=f1;have f0':(w2.drewN nq).frozen? ⟨w.1.size,pj,none⟩=false:=f0;have HO':=jq (HO.out.drewN nq);have hb':=JI hb nq;clear f1 f0 d1 hb HO;generalize w2.drewN nq=w3 at*;go_wp2_with fail
     go_roundw
     case rel=>
      have h3:=HO'.out.setI (i:=pj) (y:=s%1000000000) HOK.out;rw[show((s%1000000000:Nat):Int)=(s:Int)%1000000000 by omega] at h3;refine⟨j+1,s/1000000000,os.set pj (s%1000000000),by go_num,by go_num,by omega,by omega,HST,?_,?_⟩
      ·show Own _ _ _ _ _ _ _
       with_reducible exact h3
      ·with_reducible exact(hb'.setCell (Nat.le_refl _) _)
     case measure=>simp[intOf];omega
    |false=>
     have hno:¬(j<m\/0<carry):=by have:=HBB.out;simpa using this
     obtain rfl:carry=0:=by omega
     have HN:=jq (HI.out.done HT.out HXI.out (by rw[<-HYN.out];omega));clear hno HBB;go_wp2_with fail
     go_roundw
     case rel=>exact⟨i+1,os,by omega,by go_num,HN,HO,hb⟩
     case measure=>simp[intOf];omega
  ·obtain rfl:i=n:=by omega
   have HV:=jq (show gv os0=u*v by have:=HT.out.val;rw[List.take_of_length_le (by rw[<-HXN.out];omega),HMX.out.val,HMY.out.val] at this;exact this);have HTR:=jq (Vx (some ⟨w.1.size,0,none⟩) (i+m) (i+m) os0 wr (HO0.out.sl QQ) (Nat.le_refl _) (by omega));go_wp2_with fail
   (with_reducible refine HTR.out.mono ?_)
   rintro e w3 ⟨j,rfl,hj,hgv,hnz,rfl⟩;go_wp2_with fail
   rw[HPO.out];exact⟨_,j,_,os0.take j,rfl,(HO0.out.sl QQ).take hj,hj,⟨HT.out.gs.take j,hnz,by rw[hgv];exact HV.out⟩,hb0⟩
end
section
structure RMInv (xs ys:List Nat) (i borrow:Nat) (os:List Nat):Prop where
 len:os.length=i
 val:gv os+gv (ys.take i)=gv (xs.take i)+1000000000^i*borrow
 gs:Gs os
 one:borrow<=1
theorem RMInv.zero(xs ys:List Nat):RMInv xs ys 0 0 []:=⟨rfl,by simp[gv],Gs.nil,by omega⟩
theorem RMInv.step{xs ys os:List Nat}{i borrow x d b':Nat}(h:RMInv xs ys i borrow os)(hx:xs[i]?=some x)(hd:d<1000000000)(hb:b'<=1)(he:d+(borrow+Va ys i)=x+1000000000*b'):RMInv xs ys (i+1) b' (os++[d]):=by
 refine⟨by rw[List.length_append,h.len];rfl,?_,h.gs.snoc hd,hb⟩;rw[Yj,h.len,XW xs i x hx,Vq ys i];have hv:=h.val;have e:=congrArg (fun t=>1000000000^i*t) he;simp only[Nat.mul_add] at e;rw[Nat.pow_succ,Nat.mul_assoc];omega
theorem RMInv.done{xs ys os:List Nat}{borrow u v:Nat}(h:RMInv xs ys xs.length borrow os)(hx:gv xs=u)(hy:gv ys=v)(hl:ys.length<=xs.length)(huv:v<=u):gv os=u-v:=by
 have hv:=h.val;rw[List.take_length,List.take_of_length_le hl,hx,hy] at hv;have h1:=h.one;have hlt:=Yz h.gs;rw[h.len] at hlt
 have hb0:borrow=0:=by
  by_cases hb:borrow=0
  ·exact hb
  ·have:borrow=1:=by omega
   rw[this,Nat.mul_one] at hv;omega
 rw[hb0,Nat.mul_zero] at hv;omega
theorem Zag(A A':Option Addr)(n m c c':Nat)(xs ys:List Nat)(u v:Nat)(w:World)(hx:Gi w w.1.size A n xs)(hy:Gi w w.1.size A' m ys)(mx:Mag xs u)(my:Mag ys v)(hn:n<=1000000)(hm:m<=1000000)(huv:v<=u):
 Calls Tryz.prog 221 #[.slice A n c,.slice A' m c'] w (Yb (u-v) w):=by
 have hmn:m<=n:=by
  rcases Nat.lt_or_ge n m with h|h
  ·have:=Xn mx my (by rw[<-hx.1,<-hy.1];exact h);omega
  ·exact h
 have HX:=jq hx;have HY:=jq hy;have HMX:=jq mx;have HMY:=jq my;have HUV:=jq huv;have HXN:=jq hx.1;have HYN:=jq hy.1;have HPO:=jq (show Yb (u-v) w=fun e w'=>∃A n c xs,e=.returned (.slice A n c)/\Gi w' w'.1.size A n xs/\n<=c/\Mag xs (u-v)/\Below w.1.size w w' from rfl);generalize Yb (u-v) w=post at*;clear hx hy mx my huv;have HO0:=jq (Own.lit (enc:=G1) (k:=1) (base:=w.1.size) w #[] 3 [] rfl QQ (Nat.le_refl _) (by simp));go_enter Tryz.func221,Tryz.ntmps221
 go_wp2_with fail
 go_loopw [5,6,7] (fun o bo i wr=>∃(k borrow co:Nat) (Ao:Option Addr) (os:List Nat),i=.int .i64 k/\bo=.int .i64 borrow/\o=.slice Ao k co/\borrow<=1/\k<=n/\Hid (RMInv xs ys k borrow os)/\Hid (Own G1 1 3 wr w.1.size (.slice Ao k co) os)/\Below w.1.size w wr) (fun _ _ i _=>n-(intOf i).toNat)
 case atStart=>exact⟨0,0,0,_,[],rfl,rfl,rfl,by omega,by omega,RMInv.zero xs ys,HO0,(Below.refl _ _).alloc (Nat.le_refl _) _⟩
 case round=>
  clear HO0;obtain⟨k,borrow,co,Ao,os,rfl,rfl,rfl,hbo,hk,HI,HO,hb⟩:=hrel
  by_cases hlt:k<n
  ·obtain⟨xb,xo,x,rfl,hxb,hxk,d0⟩:=HX.out.gri hlt
   have d1:=(hb.cell (p:=⟨xb,xo+k,none⟩) hxb).trans d0;have hx9:=HMX.out.gs.at_ hxk;have hy9:=JU HMY.out.gs k;have HGR:=jq (fun W (hb:Below w.1.size w W)=>VL A' m c' ys k W (HY.out.here hb) (by omega) (by omega));have HST:=jq (fun d b' h1 h2 h3=>HI.out.step (d:=d) (b':=b') hxk h1 h2 h3);generalize Va ys k=gy at*;have HIL:=jq HI.out.len;obtain⟨q1,q2,q3,hf⟩:=HO.out.facts;clear q1 q2 q3
   have HF:=jq hf;clear hf hxk d0;obtain⟨t1,ht1⟩:∃t1:Int,(x:Int)-(gy:Int)=t1:=⟨_,rfl⟩
   obtain⟨t,ht⟩:∃t:Int,t1-(borrow:Int)=t:=⟨_,rfl⟩
   have ht1l: -1000000000<=t1/\t1<=1000000000:=by omega
   have htl: -1000000001<=t/\t<=1000000000:=by omega
   obtain⟨ht1a,ht1b⟩:=ht1l
   obtain⟨hta,htb⟩:=htl
   have HT:=jq (show t=(x:Int)-gy-borrow by omega);go_upto_region 6 with (fail)
   have iw1:IntKind.i64.wrap t1=t1:=IntWalk.i64_in _ (by omega);have iw2:IntKind.i64.wrap t=t:=IntWalk.i64_in _ (by omega)
   go_quiet ((go_at_call 216;exact Calls.quiet_of_same ((HGR.out _ (JI hb _)).mono (fun e w' h=>⟨h.1,h.2.symm⟩))))
   clear iw1 iw2 ht ht1 d1;have HO':=jq (HO.out.drewN nq);have hb':=JI hb nq;clear hb HO;generalize wr.drewN nq=w3 at*
   obtain⟨sr,b',hsr9,hb1',hcase⟩:∃sr b':Nat,sr<1000000000/\b'<=1/\((t<0/\b'=1/\(sr:Int)=t+1000000000)\/(0<=t/\b'=0/\(sr:Int)=t)):=by
    have:=HT.out
    by_cases h0:t<0
    ·exact⟨(t+1000000000).toNat,1,by omega,by omega,.inl ⟨h0,rfl,by omega⟩⟩
    ·exact⟨t.toNat,0,by omega,by omega,.inr ⟨by omega,rfl,by omega⟩⟩
   have HN:=jq (HST.out sr b' hsr9 hb1' (by have:=HT.out;rcases hcase with ⟨h1,h2,h3⟩|⟨h1,h2,h3⟩<;>omega))
   rcases hcase with ⟨h1,h2,h3⟩|⟨h1,h2,h3⟩
   ·subst h2;have h3':t+1000000000=(sr:Int):=h3.symm;clear h3;go_wp2_with (at_builtin;refine Qs _ rfl (.tmp 30) (.tmp 32) _ rfl Jo QQ Zcx (base:=w.1.size) (.slice Ao k co) os rfl (HO'.out.alloc _) _ _ 1 1 [sr] rfl (Sl.lit w3 #[.int .i64 sr] 3 [sr] rfl QQ) (by rw[HIL.out];omega) (by have:=hb'.size;simp;omega) ?_;intro A4 c4 w4 ho4 hg4 hat4;rw[HIL.out] at ho4 ⊢)
    have hb4:Below w.1.size w w4:=QK (hb'.alloc hb'.size _) hg4 (by have:=hb'.size;simp;omega) (fun g' e=>by
     rcases HF.out with ⟨rfl,_⟩|⟨g,rfl,hg1,hg2⟩
     ·simp[Value.ownBlock] at e
     ·simp[Value.ownBlock] at e;omega)
    have HO4:=jq ho4;clear ho4 hg4 hat4
    go_roundw
    case rel=>exact⟨k+1,1,c4,A4,os++[sr],by go_num,rfl,rfl,by omega,by omega,HN,HO4,hb4⟩
    case measure=>simp[intOf];omega
   ·subst h2;subst h3;have hdn:decide ((sr:Int)<0)=false:=by simp
    go_wp2_with (at_builtin;refine Qs _ rfl (.tmp 30) (.tmp 32) _ rfl Jo QQ Zcx (base:=w.1.size) (.slice Ao k co) os rfl (HO'.out.alloc _) _ _ 1 1 [sr] rfl (Sl.lit w3 #[.int .i64 sr] 3 [sr] rfl QQ) (by rw[HIL.out];omega) (by have:=hb'.size;simp;omega) ?_;intro A4 c4 w4 ho4 hg4 hat4;rw[HIL.out] at ho4 ⊢)
    have hb4:Below w.1.size w w4:=QK (hb'.alloc hb'.size _) hg4 (by have:=hb'.size;simp;omega) (fun g' e=>by
     rcases HF.out with ⟨rfl,_⟩|⟨g,rfl,hg1,hg2⟩
     ·simp[Value.ownBlock] at e
     ·simp[Value.ownBlock] at e;omega)
    have HO4:=jq ho4;clear ho4 hg4 hat4
    go_roundw
    case rel=>exact⟨k+1,0,c4,A4,os++[sr],by go_num,rfl,rfl,by omega,by omega,HN,HO4,hb4⟩
    case measure=>simp[intOf];omega
  ·obtain rfl:k=n:=by omega
   have HV:=jq (RMInv.done (by have:=HI.out;rw[HXN.out] at this;exact this) HMX.out.val HMY.out.val (by rw[<-HXN.out,<-HYN.out];omega) HUV.out);have HOF:=jq HO.out.facts;have HTR:=jq (Vx Ao k co os wr (HO.out.sl QQ) (by have:=HOF.out.2.1;have:=HOF.out.1;omega) (by omega));go_wp2_with fail
   (with_reducible refine HTR.out.mono ?_)
   rintro e w3 ⟨j,rfl,hj,hgv,hnz,rfl⟩;go_wp2_with fail
   rw[HPO.out];exact⟨Ao,j,co,os.take j,rfl,(HO.out.sl QQ).take hj,by have:=HOF.out.2.1;have:=HOF.out.1;omega,⟨HI.out.gs.take j,hnz,by rw[hgv];exact HV.out⟩,hb⟩
end
section
def Zcz(q r:Nat)(w:World)(e:Ending)(w':World):Prop:=
 ∃A1 n1 c1 qs A2 n2 c2 rs,e=.returned (.tuple #[.slice A1 n1 c1,.slice A2 n2 c2])/\Gi w' w'.1.size A1 n1 qs/\n1<=c1/\Mag qs q/\Gi w' w'.1.size A2 n2 rs/\n2<=c2/\Mag rs r/\Below w.1.size w w'
structure RDSt (w:World) (gq n:Nat) (qs:List Nat) (Ar:Option Addr) (nr cr:Nat) (rs:List Nat) (R:Nat) (wr:World):Prop where
 q:Own G1 1 3 wr w.1.size (.slice (some ⟨gq,0,none⟩) n n) qs
 g:Gi wr wr.1.size Ar nr rs
 m:Mag rs R
 c:nr<=cr
 l:nr<=200000
 bl:Below w.1.size w wr
theorem RDSt.here{w:World}{gq n:Nat}{qs:List Nat}{Ar:Option Addr}{nr cr:Nat}{rs:List Nat}{R:Nat}{W W':World}(h:RDSt w gq n qs Ar nr cr rs R W)(hb:Below W.1.size W W'):RDSt w gq n qs Ar nr cr rs R W':=
 ⟨h.q.below hb,h.g.here hb,h.m,h.c,h.l,h.bl.trans (hb.mono h.bl.size)⟩
theorem SgInv.step'{xs os:List Nat}{d i rest x:Nat}(h:SgInv xs d (i+1) rest os)(hx:xs[i]?=some x)(hgx:Gs xs):
 SgInv xs d i ((rest*1000000000+x)%d) (os.set i ((rest*1000000000+x)/d))/\(rest*1000000000+x)/d<1000000000:=by
 have hi:=(List.getElem?_eq_some_iff.1 hx).1;have hio:i<os.length:=by rw[h.len];exact hi
 have hlt:=h.lt;have hx9:=hgx.at_ hx
 have hq:(rest*1000000000+x)/d<1000000000:=by
  rw[Nat.div_lt_iff_lt_mul (by omega)];have:(rest+1)*1000000000<=d*1000000000:=Nat.mul_le_mul_right _ hlt
  rw[Nat.mul_comm d] at this;omega
 have hm:=Nat.mod_lt (rest*1000000000+x) (show 0<d by omega);have hdm:=Nat.div_add_mod (rest*1000000000+x) d;refine⟨⟨by rw[List.length_set];exact h.len,?_,hm,?_⟩,hq⟩
 ·rw[XN hio,XD xs i x hx,h.val,gv,Nat.mul_add,Nat.mul_add];rw[Nat.mul_left_comm d 1000000000];omega
 ·rw[XN hio];intro y hy
  rcases List.mem_cons.1 hy with h1|h1
  ·rw[h1];exact hq
  ·exact h.gs y h1
theorem Mag.lt_len{xs:List Nat}{u:Nat}(h:Mag xs u):u<1000000000^xs.length:=by
 have:=Yz h.gs
 rwa [h.val] at this
theorem Gi.far{w:World}{B n:Nat}{A:Option Addr}{xs:List Nat}(h:Gi w B A n xs){p:Addr}(hp:∀a,A=some a->a.block≠p.block)(u:Value):Gi (w.setCell p u) B A n xs:=
 ⟨h.1,fun hn=>by
  obtain⟨b,off,e,hb,hc⟩:=h.2 hn
  refine⟨b,off,e,hb,fun i x hi j v hj=> ?_⟩;rw[World.cell?_of_block (Below.heap_setCell w p u b (hp _ e))];exact hc i x hi j v hj⟩
theorem ZkE{R v x P:Nat}(h1:v<P)(h2:R<v)(hx:x<1000000000):R*1000000000+x<P*1000000000:=by omega
theorem Zl9{R v x m:Nat}(h1:v<1000000000^m)(h2:R<v)(hx:x<1000000000):R*1000000000+x<1000000000^(m+1):=by
 rw[Nat.pow_succ];exact ZkE h1 h2 hx
theorem Mag.one'{s:Nat}(h0:1<=s)(h9:s<1000000000):Mag [s] s:=
 ⟨fun x hx=>by simp at hx;omega,by unfold Nz;simp;omega,by simp[gv]⟩
theorem Zfk(A A':Option Addr)(n m c c':Nat)(xs ys:List Nat)(u v:Nat)(w:World)(hx:Gi w w.1.size A n xs)(hy:Gi w w.1.size A' m ys)(mx:Mag xs u)(my:Mag ys v)(hn:n<=100000)(hm:m<=100000)(hv:0<v):
 Calls Tryz.prog 286 #[.slice A n c,.slice A' m c'] w (Zcz (u/v) (u%v) w):=by
 have HX:=jq hx;have HY:=jq hy;have HMX:=jq mx;have HMY:=jq my;have HXN:=jq hx.1;have HYN:=jq hy.1;have HPO:=jq (show Zcz (u/v) (u%v) w=fun e w'=>∃A1 n1 c1 qs A2 n2 c2 rs,e=.returned (.tuple #[.slice A1 n1 c1,.slice A2 n2 c2])/\Gi w' w'.1.size A1 n1 qs/\n1<=c1/\Mag qs (u/v)/\Gi w' w'.1.size A2 n2 rs/\n2<=c2/\Mag rs (u%v)/\Below w.1.size w w' from rfl);generalize Zcz (u/v) (u%v) w=post at*;clear hx hy mx my;obtain⟨w1,hmk,ho1,hb1⟩:=ZkC w w.1.size n n (n:Int) (n:Int) rfl rfl (by omega) (by omega) (Nat.le_refl _)
 have HO1:=jq (ho1.alloc (.cells #[] 3));clear ho1;have HT0:=jq (SgInv.start xs v hv);rw[<-HXN.out] at HT0;have HS0:=jq (show RDSt w w.1.size n (List.replicate n 0) (some ⟨w1.1.size,0,none⟩) 0 0 [] 0 (w1.alloc (.cells #[] 3)) from⟨HO1.out,Sl.nil,Mag.zero,Nat.le_refl _,by omega,hb1.alloc hb1.size _⟩);go_enter Tryz.func286,Tryz.ntmps286
 go_wp2_with fail
 clear hmk HO1
 go_loopw [7,8] (fun r i wr=>∃(k nr cr R:Nat) (ii:Int) (Ar:Option Addr) (rs qs:List Nat),i=.int .i64 ii/\Hid (ii=(k:Int)-1)/\k<=n/\r=.slice Ar nr cr/\Hid (SgInv xs v k R qs)/\Hid (RDSt w w.1.size n qs Ar nr cr rs R wr)) (fun _ i _=>(intOf i+1).toNat)
 case atStart=>exact⟨n,0,0,0,_,_,[],_,rfl,by show _=_;rfl,Nat.le_refl _,rfl,HT0,HS0⟩
 case round=>
  clear HT0 HS0 hb1;obtain⟨k,nr,cr,R,ii,Ar,rs,qs,rfl,HII,hk,rfl,HI,HST⟩:=hrel
  by_cases hk0:k=0
  ·subst hk0;have hi0:ii<0:=by have:=HII.out;omega
   have HDN:=jq (HI.out.done HMX.out.val);have HTR:=jq (Vx (some ⟨w.1.size,0,none⟩) n n qs wr (HST.out.q.sl QQ) (Nat.le_refl _) (by omega));go_wp2_with fail
   (with_reducible refine HTR.out.mono ?_)
   rintro e w3 ⟨j,rfl,hj,hgv,hnz,rfl⟩;go_wp2_with fail
   rw[HPO.out];exact⟨_,j,_,qs.take j,Ar,nr,cr,rs,rfl,(HST.out.q.sl QQ).take hj,hj,⟨HDN.out.1.take j,hnz,by rw[hgv];exact HDN.out.2.1⟩,HST.out.g,HST.out.c,by rw[<-HDN.out.2.2];exact HST.out.m,HST.out.bl⟩
  ·obtain⟨i,rfl⟩:∃i,k=i+1:=⟨k-1,by omega⟩
   obtain rfl:ii=(i:Int):=by have:=HII.out;omega
   obtain⟨xb,xo,x,rfl,hxb,hxi,d0⟩:=HX.out.gri (i:=i) (by omega)
   have d1:=(HST.out.bl.cell (p:=⟨xb,xo+i,none⟩) hxb).trans d0;have hx9:=HMX.out.gs.at_ hxi;have HSS:=jq (HI.out.step' hxi HMX.out.gs);have HRV:=jq HI.out.lt;clear hxi d0;have HRN:=jq HST.out.g.1;have hnr:=HST.out.l;go_wp2_with (at_builtin;refine Qs _ rfl (.tmp 27) (.tmp 28) _ rfl Jo QQ Zcx (base:=wr.1.size) (.slice (some ⟨wr.1.size,0,none⟩) 1 1) [x] rfl (Own.lit wr #[.int .i64 x] 3 [x] rfl QQ (Nat.le_refl _) (by simp[maxLen])) _ _ nr cr rs rfl (HST.out.g.alloc (Nat.le_refl _) _) (by simp;omega) (by simp) ?_;intro A4 c4 w4 ho4 hg4 hat4)
   have hbw4:Below wr.1.size wr w4:=QK ((Below.refl _ wr).alloc (Nat.le_refl _) _) hg4 (by simp) (fun g' e=>by simp[Value.ownBlock] at e;omega);simp only[List.length_singleton] at ho4;have HTR:=jq (Vx A4 (1+nr) c4 ([x]++rs) w4 (ho4.sl QQ) (by have h1:=ho4.facts.2.1;have h2:=ho4.facts.1;omega) (by omega));have HO4:=jq ho4;clear ho4 hg4 hat4 d1
   (with_reducible refine HTR.out.mono ?_)
   rintro e w5 ⟨j,rfl,hj,hgv,hnz,rfl⟩;have hS4:=HST.out.here hbw4
   have hR':gv ([x]++rs)=R*1000000000+x:=by
    show x+1000000000*gv rs=_
    rw[HST.out.m.val];omega
   obtain⟨R',hR'e⟩:∃R',R'=R*1000000000+x:=⟨_,rfl⟩
   rw[<-hR'e] at HSS hR'
   have HM5:=jq (show Mag (([x]++rs).take j) R' from⟨Gs.take (fun z hz=>by
    rcases List.mem_append.1 hz with h1|h1
    ·simp at h1;omega
    ·exact HST.out.m.gs z h1) j,hnz,by rw[hgv];exact hR'⟩)
   have HG5:=jq ((HO4.out.sl QQ).take hj)
   have HJ:=jq (show j<=m+1 by
    rw[HG5.out.1];refine HM5.out.len ?_;have h1:=HMY.out.lt_len;rw[<-HYN.out] at h1;rw[hR'e];exact Zl9 h1 HRV.out hx9)
   have HS5:=jq (show RDSt w w.1.size n qs A4 j c4 (([x]++rs).take j) R' w4 from⟨hS4.q,HG5.out,HM5.out,by have h1:=HO4.out.facts.2.1;have h2:=HO4.out.facts.1;omega,by have:=HJ.out;omega,hS4.bl⟩)
   have HNE:=jq (show ∀a,A4=some a->a.block≠w.1.size by
    intro a ha
    have h1:w.1.size<wr.1.size:=by
     rcases HST.out.q.facts.2.2.2 with ⟨h,_⟩|⟨g,h,_,h2⟩
     ·cases h
     ·injection h with h;injection h with h;omega
    rcases HO4.out.facts.2.2.2 with ⟨h,_⟩|⟨g,h,h2,_⟩
    ·rw[h] at ha;cases ha
    ·rw[h] at ha;injection ha with ha;rw[<-ha];simp only;omega)
   clear hS4 hR' hR'e hgv hnz HM5 HG5 HO4 HTR HST HRN hnr hj;generalize ([x]++rs).take j=rs' at*;obtain⟨q,hq⟩:∃q,q=R'/v:=⟨_,rfl⟩
   rw[<-hq] at HSS;have HQ:=jq hq;clear hq;have hq9:=HSS.out.2;go_wp2_with fail
   go_loopw [9,10] (fun lo hi wr=>∃l h:Nat,lo=.int .i64 l/\hi=.int .i64 h/\h<=999999999/\l<=h/\Hid (l<=q/\q<=h)/\Hid (RDSt w w.1.size n qs A4 j c4 rs' R' wr)) (fun lo hi _=>(intOf hi).toNat-(intOf lo).toNat)
   case atStart=>exact⟨0,999999999,rfl,rfl,by omega,by omega,⟨Nat.zero_le _,by omega⟩,HS5⟩
   case round=>
    clear HS5 hbw4;obtain⟨l,h,rfl,rfl,hh,hlh,HLQ,HS⟩:=hrel
    by_cases hlt:l<h
    ·obtain⟨mid,hmid⟩:∃mid,mid=(l+h+1)/2:=⟨_,rfl⟩
     have hmi:((l:Int)+(h:Int)+1)/2=(mid:Int):=by omega
     have hm1:1<=mid:=by omega
     have hm9:mid<1000000000:=by omega
     have hlm:l<mid:=by omega
     have hmh:mid<=h:=by omega
     have hbA:=(Below.refl wr.1.size wr).alloc (Nat.le_refl _) (.cells #[.int .i64 mid] 3)
     have HSL:=jq (show Gi (wr.alloc (.cells #[.int .i64 mid] 3)) (wr.alloc (.cells #[.int .i64 mid] 3)).heap.size (some ⟨wr.1.size,0,none⟩) 1 [mid] by
      have:=Sl.lit wr #[.int .i64 mid] 3 [mid] rfl QQ;simpa using this)
     have HSA:=jq (HS.out.here hbA);have HTM:=jq (Zaf A' (some ⟨wr.1.size,0,none⟩) m 1 c' 1 ys [mid] v mid (wr.alloc (.cells #[.int .i64 mid] 3)) (HY.out.here HSA.out.bl) HSL.out HMY.out (Mag.one' hm1 hm9) (by omega) (by omega));have HCMP:=jq (show v*mid<=R'↔mid<=q by rw[HQ.out,Nat.le_div_iff_mul_le hv,Nat.mul_comm]);clear hmid hbA HSL;go_wp2_with fail
     generalize wr.alloc _=W2 at*
     (with_reducible refine HTM.out.mono ?_)
     rintro e w6 ⟨A6,n6,c6,zs,rfl,hg6,hc6,mg6,hb6⟩;have HS6:=jq (HSA.out.here hb6)
     have HOR:=jq (Zcy A6 A4 n6 j c6 c4 zs rs' (v*mid) R' w6 hg6 HS6.out.g mg6 HS6.out.m (by
      rw[hg6.1]
      have:zs.length<=m+1:=mg6.len (by
       have h1:=HMY.out.lt_len;rw[<-HYN.out] at h1;rw[Nat.pow_succ];exact Nat.lt_of_le_of_lt (Nat.mul_le_mul_left v (Nat.le_of_lt hm9)) (Nat.mul_lt_mul_of_pos_right h1 (by omega)))
      omega) (by have:=HS6.out.l;omega))
     clear hg6 mg6 hb6 HTM HSA;go_wp2_with fail
     (with_reducible refine HOR.out.mono ?_)
     rintro e w7 ⟨rfl,hb7⟩;have HS7:=jq (HS6.out.here hb7)
     by_cases hle:v*mid<=R'
     ·have hsd:decide (QM (((v*mid:Nat):Int)-R')<=0)=true:=by
       unfold QM;simp only[decide_eq_true_eq];(repeat' split)<;>omega
      have HMQ:=jq (HCMP.out.1 hle);clear hle HCMP HOR;generalize QM (((v*mid:Nat):Int)-R')=sg_ at*;go_wp2_with fail
      go_roundw
      case rel=>exact⟨mid,h,rfl,rfl,hh,hmh,⟨HMQ.out,HLQ.out.2⟩,HS7⟩
      case measure=>simp[intOf];omega
     ·have hsd:decide (QM (((v*mid:Nat):Int)-R')<=0)=false:=by
       unfold QM;simp only[decide_eq_false_iff_not];(repeat' split)<;>omega
      have HMQ:=jq (show ¬mid<=q from fun h=>hle (HCMP.out.2 h));clear hle HCMP HOR;generalize QM (((v*mid:Nat):Int)-R')=sg_ at*;go_wp2_with fail
      go_roundw
      case rel=>exact⟨l,mid-1,rfl,by rw[show((mid-1:Nat):Int)=(mid:Int)-1 by omega],by omega,by omega,⟨HLQ.out.1,by have:=HMQ.out;omega⟩,HS7⟩
      case measure=>simp[intOf];omega
    ·obtain rfl:l=q:=by have:=HLQ.out;omega
     have hld:decide (l<h)=false:=by simpa using hlt
     clear hlt;obtain⟨o,ho⟩:∃o,qs[i]?=some o:=⟨_,List.getElem?_eq_getElem (by rw[HI.out.len,<-HXN.out];omega)⟩
     have e0:=HS.out.q.cellI ho;have f0:=HS.out.q.frozen i;have HOK:=jq ho;clear ho;have HMD:=jq (show R'%v=R'-v*l by rw[HQ.out];have:=Nat.div_add_mod R' v;omega);have HLE:=jq (show v*l<=R' by rw[HQ.out];exact Nat.mul_div_le R' v);have HNX:=jq HSS.out.1;have hi1:i<n:=by omega
     have HS8:=jq (show RDSt w w.1.size n (qs.set i l) A4 j c4 rs' R' (wr.setCell ⟨w.1.size,i,none⟩ (.int .i64 l)) from
      ⟨HS.out.q.setI HOK.out,by have:=HS.out.g.far (p:=⟨w.1.size,i,none⟩) (HNE.out) (.int .i64 l);simpa using this,HS.out.m,HS.out.c,HS.out.l,HS.out.bl.setCell (p:=⟨w.1.size,i,none⟩) (Nat.le_refl _) _⟩)
     obtain⟨W8,hW8⟩:∃W8,W8=wr.setCell ⟨w.1.size,i,none⟩ (.int .i64 l):=⟨_,rfl⟩
     rw[<-hW8] at HS8;have HW8:=jq hW8;clear hW8;clear HS
     by_cases hl0:l=0
     ·have hd:decide (0<l)=false:=by simp[hl0]
      have HEQ:=jq (show R'%v=R' by rw[HMD.out,hl0];simp);clear hl0;go_wp2_with fail
      rw[<-HW8.out]
      go_roundw
      case rel=>exact⟨i,j,c4,R'%v,(i:Int)-1,A4,rs',qs.set i l,rfl,by show _=_;rfl,by omega,rfl,HNX,by rw[HEQ.out];exact HS8⟩
      case measure=>simp[intOf]
     ·have hd:decide (0<l)=true:=by simp;omega
      have hbA:=(Below.refl W8.1.size W8).alloc (Nat.le_refl _) (.cells #[.int .i64 l] 3)
      have HSL:=jq (show Gi (W8.alloc (.cells #[.int .i64 l] 3)) (W8.alloc (.cells #[.int .i64 l] 3)).heap.size (some ⟨W8.1.size,0,none⟩) 1 [l] by
       have:=Sl.lit W8 #[.int .i64 l] 3 [l] rfl QQ;simpa using this)
      have HSA:=jq (HS8.out.here hbA);have HTM:=jq (Zaf A' (some ⟨W8.1.size,0,none⟩) m 1 c' 1 ys [l] v l (W8.alloc (.cells #[.int .i64 l] 3)) (HY.out.here HSA.out.bl) HSL.out HMY.out (Mag.one' (by omega) hq9) (by omega) (by omega));clear hbA HSL hl0;go_wp2_with fail
      rw[<-HW8.out];have hsz8:W8.1.size=wr.1.size:=by rw[HW8.out];simp
      rw[hsz8] at HTM;clear hsz8;generalize W8.alloc _=W2 at*
      (with_reducible refine HTM.out.mono ?_)
      rintro e w6 ⟨A6,n6,c6,zs,rfl,hg6,hc6,mg6,hb6⟩;have HS6:=jq (HSA.out.here hb6)
      have HMI:=jq (Zag A4 A6 j n6 c4 c6 rs' zs R' (v*l) w6 HS6.out.g hg6 HS6.out.m mg6 (by have:=HS6.out.l;omega) (by
       rw[hg6.1]
       have:zs.length<=m+1:=mg6.len (by
        have h1:=HMY.out.lt_len;rw[<-HYN.out] at h1;rw[Nat.pow_succ];exact Nat.lt_of_le_of_lt (Nat.mul_le_mul_left v (Nat.le_of_lt hq9)) (Nat.mul_lt_mul_of_pos_right h1 (by omega)))
       omega) HLE.out)
      rw[<-HMD.out] at HMI;clear hg6 mg6 hb6 HTM HSA;go_wp2_with fail
      (with_reducible refine HMI.out.mono ?_)
      rintro e w7 ⟨A9,n9,c9,rs9,rfl,hg9,hc9,mg9,hb9⟩;have HS9:=HS6.out.here hb9
      have HS10:=jq (show RDSt w w.1.size n (qs.set i l) A9 n9 c9 rs9 (R'%v) w7 from⟨HS9.q,hg9,mg9,hc9,by
       rw[hg9.1]
       have:rs9.length<=m:=mg9.len (by
        have h1:=HMY.out.lt_len;rw[<-HYN.out] at h1;exact Nat.lt_trans (Nat.mod_lt _ hv) h1)
       omega,HS9.bl⟩)
      clear hg9 mg9 HS9;go_wp2_with fail
      go_roundw
      case rel=>exact⟨i,n9,c9,R'%v,(i:Int)-1,A9,rs9,qs.set i l,rfl,by show _=_;rfl,by omega,rfl,HNX,HS10⟩
      case measure=>simp[intOf]
end
section
def RNumB(w:World)(p:Nat)(neg:Bool)(A:Option Addr)(n c:Nat):Prop:=w.heap[p]?=some (.cells #[.bool neg,.slice A n c] 209 (0,0))
section
variable {w w':World} {p q:Nat} {neg:Bool} {A:Option Addr} {n c:Nat}
theorem RNumB.lt(h:RNumB w p neg A n c):p<w.1.size:=(Array.getElem?_eq_some_iff.1 h).1
theorem RNumB.cells(h:RNumB w p neg A n c):w.cell? ⟨p,0,none⟩=some (.bool neg)/\w.cell? ⟨p,1,none⟩=some (.slice A n c):=
 ⟨cell_of_row w p 0 _ 209 (0,0) h,cell_of_row w p 1 _ 209 (0,0) h⟩
theorem RNumB.frozen(h:RNumB w p neg A n c)(j:Nat):w.frozen? ⟨p,j,none⟩=false:=by
 unfold RNumB at h;simp[World.frozen?,h]
theorem RNumB.below{N:Nat}(h:RNumB w p neg A n c)(hb:Below N w w')(hg:p<N):RNumB w' p neg A n c:=(hb.block p hg).trans h
theorem RNumB.here(h:RNumB w p neg A n c)(hb:Below w.1.size w w'):RNumB w' p neg A n c:=h.below hb h.lt
theorem RNumB.new(w:World)(neg:Bool)(A:Option Addr)(n c:Nat):RNumB (w.alloc (.cells #[.bool neg,.slice A n c] 209)) w.1.size neg A n c:=heap_alloc_new w _
theorem RNumB.far(h:RNumB w p neg A n c){a:Addr}(hp:p≠a.block)(u:Value):RNumB (w.setCell a u) p neg A n c:=(Below.heap_setCell w a u p hp).trans h
theorem RNumB.set1{A':Option Addr}{n' c':Nat}(h:RNumB w p neg A n c):RNumB (w.setCell ⟨p,1,none⟩ (.slice A' n' c')) p neg A' n' c':=by
 unfold RNumB at h ⊢;rw[heap_setCell_same w p 1 _ 209 _ h];rfl
theorem RNumB.alloc(h:RNumB w p neg A n c)(o:Obj):RNumB (w.alloc o) p neg A n c:=(Below.heap_alloc w o p h.lt).trans h
theorem RNumB.grown{row:Option Nat}(h:RNumB w p neg A n c)(hg:w.grownBy w' row)(hr:∀g,row=some g->p≠g):RNumB w' p neg A n c:=(hg.block p h.lt (fun e=>hr p e.symm rfl)).trans h
end
def YI(a:List UInt8)(w:World)(e:Ending)(w':World):Prop:=
 ∃A n c xs,e=.returned (.agg #[.bool (Qf a).2,.slice A n c])/\Gi w' w'.1.size A n xs/\n<=c/\Mag xs (Qh (Qf a).1)/\Below w.1.size w w'
theorem ZkF{s:List UInt8}{lo i:Nat}{b:UInt8}(h:s[i]?=some b)(hlo:lo<=i):Qh ((s.take (i+1)).drop lo)=10*Qh ((s.take i).drop lo)+(b.toNat-48):=by
 obtain⟨hi,rfl⟩:=List.getElem?_eq_some_iff.1 h
 rw[List.take_succ_eq_append_getElem hi,List.drop_append_of_le_length (by rw[List.length_take];omega),YE]
theorem Zfl{s:List UInt8}(hd:s.all Qq=true)(lo i:Nat)(h9:i<=lo+9):Qh ((s.take i).drop lo)<1000000000:=by
 have h:((s.take i).drop lo).all Qq=true:=by
  rw[List.all_eq_true] at hd ⊢;exact fun x hx=>hd x (List.mem_of_mem_take (List.mem_of_mem_drop hx))
 have h1:=Xs h;have h2:10^((s.take i).drop lo).length<=10^9:=Nat.pow_le_pow_right (by omega) (by rw[List.length_drop,List.length_take];omega);omega
theorem YJ(a:List UInt8)(w:World)(ha:a.length<=1000000):Calls Tryz.prog 189 #[S a] w (YI a w):=by
 have hb0:Below w.1.size w (w.alloc (.cells #[.bool false,.slice none 0 0] 209)):=(Below.refl _ _).alloc (Nat.le_refl _) _;have HDG:=jq (Xo a (w.alloc (.cells #[.bool false,.slice none 0 0] 209)) (by omega));obtain⟨hd,hz,_⟩:=XE a
 have hl:=Xv a;have HP:=jq (show YI a w=fun e w'=>∃A n c xs,e=.returned (.agg #[.bool (Qf a).2,.slice A n c])/\Gi w' w'.1.size A n xs/\n<=c/\Mag xs (Qh (Qf a).1)/\Below w.1.size w w' from rfl);generalize YI a w=post at*;generalize (Qf a).1=s at*;generalize (Qf a).2=neg at*;have hsl:s.length<=1000000:=by omega
 have HD:=jq hd;have HZ:=jq hz;have HB0:=jq hb0;have HR0:=jq (RNumB.new w false none 0 0);clear hd hz hl hb0;unfold S at*
 go_enter Tryz.func189,Tryz.ntmps189
 go_wp2_with (go_at_call 183;refine HDG.out.mono ?_;rintro e w1 ⟨rfl,rfl⟩)
 have hR1:RNumB ((w.alloc (.cells #[.bool false,.slice none 0 0] 209)).alloc (.cells #[.bool neg,.slice none 0 0] 209)) (w.1.size+1) neg none 0 0:=by
  have:=RNumB.new (w.alloc (.cells #[.bool false,.slice none 0 0] 209)) neg none 0 0
  simp only[World.size_alloc] at this;exact this
 have HRZ:=jq (HR0.out.alloc (.cells #[.bool neg,.slice none 0 0] 209));have HR1:=jq hR1;clear hR1;have hbA:Below w.1.size w ((w.alloc (.cells #[.bool false,.slice none 0 0] 209)).alloc (.cells #[.bool neg,.slice none 0 0] 209)):=((Below.refl _ _).alloc (Nat.le_refl _) _).alloc (by simp) _;have hsz0:w.1.size+2<=((w.alloc (.cells #[.bool false,.slice none 0 0] 209)).alloc (.cells #[.bool neg,.slice none 0 0] 209)).heap.size:=by simp
 generalize (w.alloc (.cells #[.bool false,.slice none 0 0] 209)).alloc (.cells #[.bool neg,.slice none 0 0] 209)=W1 at*
 go_loopw [6] (fun i wr=>∃(j co:Nat) (ei:Int) (Ao:Option Addr) (gs:List Nat),j<=1000000/\i=.int .i64 ei/\Hid (ei=(s.length:Int)-9*j)/\Hid (RNumB wr w.1.size false none 0 0)/\Hid (RNumB wr (w.1.size+1) neg Ao j co)/\Hid (Own G1 1 3 wr (w.1.size+2) (.slice Ao j co) gs)/\Hid (RInv s j gs)/\Hid (9*j<=s.length+8)/\Hid (w.1.size+2<=wr.1.size)/\Below w.1.size w wr) (fun i _=>(intOf i).toNat)
 case atStart=>exact⟨0,0,_,none,[],by omega,rfl,by show _=_;simp,HRZ,HR1,Own.nil,RInv.zero s,by show _<=_;omega,hsz0,hbA⟩
 case round=>
  clear HRZ HR1 HR0 hbA hsz0 HDG;obtain⟨j,co,ei,Ao,gs,hj,rfl,HE,HRZ,HRN,HO,HI,HJ,HSZ,hb⟩:=hrel
  by_cases hlt:9*j<s.length
  ·have HR:=jq (HI.out.step HD.out HZ.out hlt);obtain⟨en,hen⟩:∃en:Nat,ei=en:=⟨ei.toNat,by have:=HE.out;omega⟩
   subst hen;have hep:0<en:=by have:=HE.out;omega
   have hel:en<=s.length:=by have:=HE.out;omega
   obtain⟨lo,hlo⟩:∃lo:Nat,lo=en-9:=⟨_,rfl⟩
   have hmx:max 0 ((en:Int)-9)=(lo:Int):=by omega
   have hle:lo<=en:=by omega
   have hlo9:en<=lo+9:=by omega
   have HGO:=jq (show(s.take en).drop lo=Yr s j by
    unfold Yr;have h1:=HE.out
    rw[show en=s.length-9*j by omega,show lo=s.length-9*(j+1) by omega])
   clear hlo;have HIL:=jq HI.out.len;go_wp2_with fail
   go_loop [7,8] (fun n i=>∃(k m:Nat),lo<=k/\k<=en/\i=.int .i64 k/\n=.int .i64 m/\m<1000000000/\Hid (m=Qh ((s.take k).drop lo))) (fun _ i=>en-(intOf i).toNat)
   case atStart=>exact⟨lo,0,Nat.le_refl _,hle,rfl,rfl,by omega,by show _=_;rw[List.drop_of_length_le (by rw[List.length_take];omega)];rfl⟩
   case round=>
    obtain⟨k,m,hk1,hk2,rfl,rfl,hm,HM⟩:=hrel
    by_cases hke:k<en
    ·obtain⟨b,hbb⟩:∃b,s[k]?=some b:=⟨_,List.getElem?_eq_getElem (by omega)⟩
     have hks:k<(⟨s.toArray⟩:ByteArray).size:=by rw[Qk];omega
     have hbk:(⟨s.toArray⟩:ByteArray)[k]=b:=Jn hbb hks;obtain⟨h1,h2⟩:=(QG b).1 (by have:=HD.out;rw[List.all_eq_true] at this;exact this b (List.mem_of_getElem? hbb))
     have HST:=jq (ZkF (lo:=lo) hbb hk1);have hm2:=Zfl HD.out lo (k+1) (by omega);rw[HST.out,<-HM.out] at hm2;have hkl:k<s.length:=by omega
     clear hbb
     go_wp2
     go_round
     case rel=>exact⟨k+1,10*m+(b.toNat-48),by omega,by omega,by go_num,by rw[show((10*m+(b.toNat-48):Nat):Int)=10*(m:Int)+((b.toNat:Int)-48) by omega],hm2,by show _=_;rw[HST.out,<-HM.out]⟩
     case measure=>simp[intOf];omega
    ·obtain rfl:k=en:=by omega
     have HMV:=jq (show m=Qh (Yr s j) by rw[<-HGO.out];exact HM.out);rw[<-HMV.out] at HR;have hked:decide (k<k)=false:=by simp
     obtain⟨c0,c1⟩:=HRN.out.cells
     obtain⟨q1,q2,q3,hf⟩:=HO.out.facts;clear q1 q2 q3
     have HF:=jq hf;clear hf;have HRA:=jq (HRN.out.alloc (.cells #[.int .i64 m] 3))
     go_wp2_with (at_builtin;refine Qs _ rfl (.tmp 39) (.tmp 41) _ rfl Jo QQ Zcx (base:=w.1.size+2) (.slice Ao j co) gs rfl (HO.out.alloc _) _ _ 1 1 [m] rfl (Sl.lit wr #[.int .i64 m] 3 [m] rfl QQ) (by rw[HIL.out];omega) (by have:=HSZ.out;simp;omega) ?_;intro A4 c4 w4 ho4 hg4 hat4
                  rw[HIL.out] at ho4 ⊢
                  have hrow:∀g,(Value.slice Ao j co).ownBlock=some g->w.1.size+2<=g:=fun g e=>by
                   rcases HF.out with ⟨h,_⟩|⟨g',h,hg1,hg2⟩
                   ·rw[h] at e;simp[Value.ownBlock] at e
                   ·rw[h] at e;simp[Value.ownBlock] at e;omega
                  have hRN4:=HRA.out.grown hg4 (fun g e=>by have:=hrow g e;omega);have c4a:=hRN4.cells.1;have c4b:=hRN4.cells.2;have f4a:=hRN4.frozen 0;have f4b:=hRN4.frozen 1)
     have HR4:=jq hRN4;have HO4:=jq ho4;have HROW:=jq hrow;have HZ4:=jq ((HRZ.out.alloc (.cells #[.int .i64 m] 3)).grown hg4 (fun g e=>by have:=HROW.out g e;omega));have hb4:Below w.1.size w w4:=QK (hb.alloc hb.size _) hg4 (by have:=hb.size;simp;omega) (fun g e=>by have:=HROW.out g e;omega);have HS4:=jq (show w.1.size+2<=w4.1.size by have h1:=hg4.size;have h2:=HSZ.out;simp at h1;omega);clear hRN4 ho4 hrow hg4 hat4 c4a c4b f4a f4b c0 c1
     go_roundw
     case rel=>
      refine⟨j+1,c4,(k:Int)-9,A4,gs++[m],by have:=HE.out;omega,rfl,by show _=_;have:=HE.out;omega,HZ4.out.far (by simp) _,HR4.out.set1,?_,HR,by show _<=_;omega,?_,hb4.setCell (p:=⟨w.1.size+1,1,none⟩) (by simp only;omega) _⟩
      ·refine HO4.out.far ?_ _
       rcases HO4.out.facts.2.2.2 with ⟨h,_⟩|⟨g,h,hg1,_⟩
       ·rw[h];simp[Value.ownBlock]
       ·rw[h];simp only[Value.ownBlock];intro e;injection e with e;omega
      ·show _<=_
       have:=HS4.out;simp;omega
     case measure=>simp[intOf];omega
  ·have hei:ei<=0:=by have:=HE.out;omega
   obtain⟨c0,c1⟩:=HRN.out.cells
   obtain⟨z0,z1⟩:=HRZ.out.cells
   have f0:=HRZ.out.frozen 0;have f1:=HRZ.out.frozen 1;go_wp2_with fail
   rw[HP.out]
   have hne:(Value.slice Ao j co).ownBlock≠some w.1.size:=by
    rcases HO.out.facts.2.2.2 with ⟨h,_⟩|⟨g,h,hg1,hg2⟩
    ·rw[h];simp[Value.ownBlock]
    ·rw[h];simp only[Value.ownBlock];intro h;injection h with h;omega
   refine bodyPost_ret (v:=.agg #[.bool neg,.slice Ao j co]) (by simp[results,Tryz.results189,go_sem,z0,z1]) rfl ⟨Ao,j,co,gs,rfl,?_,?_,?_,?_⟩
   ·exact((HO.out.far hne _).far hne _).sl QQ
   ·have h1:=HO.out.facts.2.1;have h2:=HO.out.facts.1;omega
   ·exact⟨HI.out.ok,HI.out.nz (by omega),by rw[HI.out.val,show s.length-9*j=0 by omega];rfl⟩
   ·exact(hb.setCell (p:=⟨w.1.size,0,none⟩) (Nat.le_refl _) _).setCell (p:=⟨w.1.size,1,none⟩) (Nat.le_refl _) _
end
section
theorem Zgj(k:Nat):∀g:Nat,YL (k+1) g=UInt8.ofNat (48+g/10^k%10)::YL k g:=by
 induction k with
 |zero=>intro g;simp[YL]
 |succ k ih=>
  intro g;have h1:YL (k+1+1) g=YL (k+1) (g/10)++[UInt8.ofNat (48+g%10)]:=rfl;have h2:YL (k+1) g=YL k (g/10)++[UInt8.ofNat (48+g%10)]:=rfl;rw[h1,ih (g/10),h2,List.cons_append,Nat.div_div_eq_div_mul,Nat.pow_succ,Nat.mul_comm 10]
theorem ZkH(k:Nat):∀g:Nat,(YL k g).all Qq=true:=by
 induction k with
 |zero=>intro g;rfl
 |succ k ih=>intro g;rw[YL,List.all_append,ih,List.all_cons,List.all_nil,Zc6 (g%10) (by omega)];rfl
theorem Zio(k:Nat):∀g:Nat,Qh (YL k g)=g%10^k:=by
 induction k with
 |zero=>intro g;simp[YL,Qh,Nat.mod_one]
 |succ k ih=>
  intro g;rw[YL,YE,ih];have:(UInt8.ofNat (48+g%10)).toNat=48+g%10:=by simp;omega
  rw[this,Nat.pow_succ,Nat.mul_comm (10^k) 10,Nat.mod_mul];omega
theorem ZcA(l:List UInt8):Qh (l.dropWhile (·==48))=Qh l:=by
 induction l with
 |nil=>rfl
 |cons b l ih=>
  rw[List.dropWhile_cons]
  split
  ·rename_i h
   rw[ih];have hb:b=48:=by simpa using h
   subst hb;unfold Qh;rw[List.foldl_cons];rfl
  ·rfl
theorem Zgk{t:List UInt8}(h:t.all Qq=true):val t=Qh t:=by
 have hp:Lib.hasPrefix t [45]=false:=by
  cases t with
  |nil=>rfl
  |cons b l=>
   rw[Zil];have hb:Qq b=true:=by simp at h;exact h.1
   have:=(QG b).1 hb
   rw[Bool.eq_false_iff];intro h2;have:b=45:=by simpa using h2
   subst this;simp at*
 have ht:Lib.trimPrefix t [45]=t:=by unfold Lib.trimPrefix;rw[hp];rfl
 unfold val Qf;simp only[ht,h,hp,if_true,Bool.false_and,Bool.false_eq_true,if_false];rw[ZcA]
theorem Zip{t:List UInt8}(h:t.all Qq=true):val (45::t)= -(Qh t:Int):=by
 have hp:Lib.hasPrefix (45::t) [45]=true:=by rw[Zil];rfl
 have ht:Lib.trimPrefix (45::t) [45]=t:=by rw[Zky];rfl
 unfold val Qf;simp only[ht,h,hp,if_true,Bool.true_and];have hz:=ZcA t
 cases he:(t.dropWhile (·==48)).isEmpty with
 |true=>
  have he2:t.dropWhile (·==48)=[]:=by simpa using he
  rw[<-hz,he2];rfl
 |false=>
  simp only[Bool.not_false,if_true];rw[hz]
def ZnS(xs:List Nat)(s i:Value):Prop:=∃(k:Nat) (t:List UInt8),i=.int .i64 k/\k<=xs.length/\s=.string ⟨t.toArray⟩/\t.length=9*k/\t.all Qq=true/\Qh t=gv (xs.take k)
def ZnT(g:Nat)(t0:List UInt8)(s n k:Value):Prop:=∃(j m:Nat) (t:List UInt8),k=.int .i64 j/\j<=9/\n=.int .i64 m/\m=g/10^j/\s=.string ⟨t.toArray⟩/\t=YL j g++t0
theorem VM(neg:Bool)(A:Option Addr)(n c:Nat)(xs:List Nat)(w:World)(hr:Gi w w.1.size A n xs)(hgs:Gs xs)(hn:n<=1000000):
 Calls Tryz.prog 190 #[.agg #[.bool neg,.slice A n c]] w fun e w'=>e=.returned (S (Zi5 neg (gv xs)))/\Below w.1.size w w':=by
 have hbA:Below w.1.size w (w.alloc (.cells #[.bool neg,.slice A n c] 209)):=(Below.refl _ _).alloc (Nat.le_refl _) _;have HB:=jq hbA;have HR:=jq (hr.here hbA);have HG:=jq hgs;have HXN:=jq hr.1;obtain⟨c0,c1⟩:=(RNumB.new w neg A n c).cells
 clear hr hgs hbA;unfold S;go_enter Tryz.func190,Tryz.ntmps190
 go_wp2
 generalize w.alloc _=W at*
 go_loop [3,4] (fun s i=>ZnS xs s i) (fun _ i=>n-(intOf i).toNat)
 case atStart=>exact⟨0,[],rfl,Nat.zero_le _,rfl,rfl,rfl,rfl⟩
 case round=>
  obtain⟨k,t,rfl,hk,rfl,htl,htd,htv⟩:=hrel
  rw[<-HXN.out] at hk;have HTL:=jq htl;have HTD:=jq htd;have HTV:=jq htv;clear htl htd htv
  by_cases hlt:k<n
  ·obtain⟨b,off,g,rfl,hb,hg,d0⟩:=HR.out.gri hlt
   have hg9:=HG.out.at_ hg;have HGG:=jq hg;clear hg
   go_wp2
   go_loop [3,5,6] (fun s n k=>ZnT g t s n k) (fun _ _ k=>9-(intOf k).toNat)
   case atStart=>exact⟨0,g,t,rfl,by omega,rfl,by simp,rfl,rfl⟩
   case round=>
    obtain⟨j,m,t',rfl,hj,rfl,hm,rfl,ht'⟩:=hrel
    have HM:=jq hm;have HT':=jq ht';have hml:m<=g:=by rw[hm];exact Nat.div_le_self _ _
    have htl':t'.length<=9000009:=by rw[ht',List.length_append,Zew,HTL.out];omega
    clear hm ht'
    by_cases hj9:j<9
    ·go_wp2
     all_goals first
      |(exfalso
        have:=YB m
        omega)
      |(go_round
        case rel=>
         refine⟨j+1,m/10,UInt8.ofNat (48+m%10)::t',by go_num,by omega,by go_num,?_,?_,?_⟩
         ·rw[HM.out,Nat.div_div_eq_div_mul,Nat.pow_succ]
         ·rw[Zan];exact congrArg Value.string (Vl [UInt8.ofNat (48+m%10)] t')
         ·rw[HT'.out,Zgj,HM.out];rfl
        case measure=>simp[intOf];omega)
    ·obtain rfl:j=9:=by omega
     have HNX:=jq (show ZnS xs (.string ⟨t'.toArray⟩) (.int .i64 ((k+1:Nat):Int)) from⟨k+1,t',rfl,by rw[<-HXN.out];omega,rfl,by rw[HT'.out,List.length_append,Zew,HTL.out];omega,by rw[HT'.out,List.all_append,ZkH,HTD.out];rfl,by
      rw[HT'.out,Yp,Zio,HTL.out,HTV.out,XW xs k g HGG.out,Nat.mod_eq_of_lt (show g<10^9 by omega),Nat.pow_mul,Nat.add_comm,Nat.mul_comm]⟩)
     go_wp2
     go_round
     case rel=>have:=HNX.out;rwa [show((k+1:Nat):Int)=(k:Int)+1 by omega] at this
     case measure=>simp[intOf];omega
  ·have HV:=jq (show Qh t=gv xs by rw[HTV.out,List.take_of_length_le (by rw[<-HXN.out];omega)]);have htl:t.length<=9000000:=by rw[HTL.out];omega
   have htz:(⟨t.toArray⟩:ByteArray).size<=9000000:=by rw[Qk];exact htl
   cases neg with
   |true=>
    have HC:=jq (fun W=>YX (45::t) W (by simp;omega));rw[Zip HTD.out,HV.out] at HC;have HMK:=jq (ByteArray.mk_append_mk [45] t);unfold S at HC;go_wp2_with fail
    have hmk:((⟨#[45]⟩:ByteArray)++⟨t.toArray⟩)=⟨(45::t).toArray⟩:=HMK.out;rw[hmk];refine(HC.out _).mono ?_;rintro e w1 ⟨rfl,rfl⟩;clear hmk;go_wp2_with fail
    go_ret
    exact⟨rfl,HB.out⟩
   |false=>
    have HC:=jq (fun W=>YX t W (by omega));rw[Zgk HTD.out,HV.out] at HC;unfold S at HC;go_wp2_with fail
    refine(HC.out _).mono ?_;rintro e w1 ⟨rfl,rfl⟩;go_wp2_with fail
    go_ret
    exact⟨rfl,HB.out⟩
end
section
section
variable {w w':World} {p q:Nat} {neg:Bool} {A:Option Addr} {n c:Nat}
theorem RNumB.set_{neg':Bool}{A':Option Addr}{n' c':Nat}(h:RNumB w p neg A n c):RNumB ((w.setCell ⟨p,0,none⟩ (.bool neg')).setCell ⟨p,1,none⟩ (.slice A' n' c')) p neg' A' n' c':=by
 unfold RNumB at h ⊢;rw[heap_setCell_same _ p 1 _ 209 _ (heap_setCell_same w p 0 _ 209 _ h)];rfl
theorem RNumB.apart{A0:Option Addr}{n0 c0 B:Nat}{xs:List Nat}(h:RNumB w p neg A0 n0 c0)(hg:Gi w B A n xs)(u v:Value):Gi ((w.setCell ⟨p,0,none⟩ u).setCell ⟨p,1,none⟩ v) B A n xs:=by
 refine⟨hg.1,fun hn=> ?_⟩;obtain⟨b,off,e,hb,hc⟩:=hg.2 hn
 refine⟨b,off,e,hb,fun i x hi j y hj=> ?_⟩;have hx:=hc i x hi j y hj
 by_cases hbp:b=p
 ·exfalso
  subst hbp;have hr:=cell_of_row w b (off+i*1+j) _ 209 (0,0) h;rw[hx] at hr
  have hy:y=.int .i64 x:=by
   rcases j with _|j
   ·simp[G1] at hj;exact hj.symm
   ·simp[G1] at hj
  subst hy;generalize off+i*1+j=t at hr
  rcases t with _|_|t
  ·simp at hr
  ·simp at hr
  ·simp at hr
 ·rw[<-hx];exact World.cell?_of_block ((Below.heap_setCell _ ⟨p,1,none⟩ v b (by simpa using hbp)).trans (Below.heap_setCell w ⟨p,0,none⟩ u b (by simpa using hbp)))
end
structure RN3 (w w':World) (nx ny:Bool) (A A':Option Addr) (n m c c':Nat):Prop where
 bl:Below w.1.size w w'
 x:RNumB w' w.1.size nx A n c
 y:RNumB w' (w.1.size+1) ny A' m c'
 z:RNumB w' (w.1.size+1+1) false none 0 0
section
variable {w w' w'':World} {nx ny:Bool} {A A':Option Addr} {n m c c':Nat}
theorem RN3.here(h:RN3 w w' nx ny A A' n m c c')(hb:Below w'.1.size w' w''):RN3 w w'' nx ny A A' n m c c':=
 ⟨h.bl.trans (hb.mono h.bl.size),h.x.here hb,h.y.here hb,h.z.here hb⟩
abbrev ZcB(w w':World)(nx ny:Bool)(A A':Option Addr)(n m c c':Nat):Prop:=
 w'.cell? ⟨w.1.size,0,none⟩=some (.bool nx)/\w'.cell? ⟨w.1.size,1,none⟩=some (.slice A n c)/\w'.cell? ⟨w.1.size+1,0,none⟩=some (.bool ny)/\w'.cell? ⟨w.1.size+1,1,none⟩=some (.slice A' m c')
theorem RN3.held(h:RN3 w w' nx ny A A' n m c c'):ZcB w w' nx ny A A' n m c c':=⟨h.x.cells.1,h.x.cells.2,h.y.cells.1,h.y.cells.2⟩
theorem RN3.heldS(h:RN3 w w' nx ny A A' n m c c')(u v:Value):ZcB w ((w'.setCell ⟨w.1.size+1+1,0,none⟩ u).setCell ⟨w.1.size+1+1,1,none⟩ v) nx ny A A' n m c c':=by
 have hx:=(h.x.far (a:=⟨w.1.size+1+1,0,none⟩) (by simp;omega) u).far (a:=⟨w.1.size+1+1,1,none⟩) (by simp;omega) v;have hy:=(h.y.far (a:=⟨w.1.size+1+1,0,none⟩) (by simp) u).far (a:=⟨w.1.size+1+1,1,none⟩) (by simp) v;exact⟨hx.cells.1,hx.cells.2,hy.cells.1,hy.cells.2⟩
theorem RN3.new(w:World)(nx ny:Bool)(A A':Option Addr)(n m c c':Nat):RN3 w (((w.alloc (.cells #[.bool nx,.slice A n c] 209)).alloc (.cells #[.bool ny,.slice A' m c'] 209)).alloc (.cells #[.bool false,.slice none 0 0] 209)) nx ny A A' n m c c':=by
 refine⟨(((Below.refl _ _).alloc (Nat.le_refl _) _).alloc (by simp) _).alloc (by simp;omega) _,((RNumB.new w nx A n c).alloc _).alloc _,?_,?_⟩
 ·have:=(RNumB.new (w.alloc (.cells #[.bool nx,.slice A n c] 209)) ny A' m c').alloc (.cells #[.bool false,.slice none 0 0] 209)
  simpa using this
 ·have:=RNumB.new ((w.alloc (.cells #[.bool nx,.slice A n c] 209)).alloc (.cells #[.bool ny,.slice A' m c'] 209)) false none 0 0
  simpa using this
end
def ZcC(s:Int)(w:World)(e:Ending)(w':World):Prop:=
 ∃ng A n c xs r,e=.returned (.agg #[.bool ng,.slice A n c])/\Gi w' w'.1.size A n xs/\n<=c/\Mag xs r/\sv ng r=s/\Below w.1.size w w'
theorem Zbb(nx ny:Bool)(A A':Option Addr)(n m c c':Nat)(xs ys:List Nat)(u v:Nat)(w:World)(hx:Gi w w.1.size A n xs)(hy:Gi w w.1.size A' m ys)(mx:Mag xs u)(my:Mag ys v)(hn:n<=1000000)(hm:m<=1000000):
 Calls Tryz.prog 193 #[.agg #[.bool nx,.slice A n c],.agg #[.bool ny,.slice A' m c']] w (ZcC (sv nx u+sv ny v) w):=by
 have HPO:=jq (show ZcC (sv nx u+sv ny v) w=fun e w'=>∃ng A n c xs r,e=.returned (.agg #[.bool ng,.slice A n c])/\Gi w' w'.1.size A n xs/\n<=c/\Mag xs r/\sv ng r=sv nx u+sv ny v/\Below w.1.size w w' from rfl);generalize ZcC (sv nx u+sv ny v) w=post at*;have H3:=jq (RN3.new w nx ny A A' n m c c');have HX:=jq (hx.here H3.out.bl);have HY:=jq (hy.here H3.out.bl);have HMX:=jq mx;have HMY:=jq my;obtain⟨p0,p1⟩:=H3.out.x.cells
 obtain⟨q0,q1⟩:=H3.out.y.cells
 clear hx hy mx my;go_enter Tryz.func193,Tryz.ntmps193
 by_cases hs:nx=ny
 ·subst hs;have hsb:(nx==nx)=true:=by simp
  go_upto_region 2 with (fail)
  generalize ((w.alloc (.cells #[.bool nx,.slice A n c] 209)).alloc (.cells #[.bool nx,.slice A' m c'] 209)).alloc (.cells #[.bool false,.slice none 0 0] 209)=W0 at*;have HPL:=jq (Zin A A' n m c c' xs ys u v W0.drew HX.out.drew HY.out.drew HMX.out HMY.out hn hm);have HSV:=jq (show sv nx (u+v)=sv nx u+sv nx v by cases nx<;>simp[sv]<;>omega)
  go_region_held3 (fun w'=>ZcB w w' nx nx A A' n m c c')
   (first
     |exact(H3.out.here hbz).heldS _ _
     |exact(H3.out.here hbz).held
     |exact H3.out.held
     |go_keep)
   (first
     |(go_at_call 219;refine HPL.out.mono ?_;rintro e w1 ⟨A1,n1,c1,zs,rfl,hg1,hc1,mg1,hb1⟩
       have hbz:Below W0.1.size W0 w1:=(Below.refl _ W0).drew.trans hb1;have r0:=(H3.out.here hbz).z.cells.1;have r1:=(H3.out.here hbz).z.cells.2;have f0:=(H3.out.here hbz).z.frozen 0;have f1:=(H3.out.here hbz).z.frozen 1;have HG1:=jq hg1;have HM1:=jq mg1;clear hg1 mg1 hb1))
  all_goals
   go_wp2_with fail
   refine bodyPost_ret (v:=.agg #[.bool nx,.slice A1 n1 c1]) (by simp[results,Tryz.results193,go_sem,r0,r1]) rfl ?_;rw[HPO.out];have H4:=H3.out.here hbz;have hW:=H4.z.lt;refine⟨nx,A1,n1,c1,zs,u+v,rfl,?_,hc1,HM1.out,HSV.out,(H4.bl.setCell (by simp only;omega) _).setCell (by simp only;omega) _⟩;exact(H4.z.apart HG1.out _ _).more (by simp)
 ·have hsb:(nx==ny)=false:=by cases nx<;>cases ny<;>simp_all
  have HSS:=jq hs;clear hs;go_wp2_with fail
  generalize ((w.alloc (.cells #[.bool nx,.slice A n c] 209)).alloc (.cells #[.bool ny,.slice A' m c'] 209)).alloc (.cells #[.bool false,.slice none 0 0] 209)=W at*;refine(Zcy A A' n m c c' xs ys u v W HX.out HY.out HMX.out HMY.out hn hm).mono ?_;rintro e W0 ⟨rfl,hb0⟩;clear p0 p1 q0 q1;replace H3:=jq (H3.out.here hb0);replace HX:=jq (HX.out.here hb0);replace HY:=jq (HY.out.here hb0);obtain⟨p0,p1⟩:=H3.out.x.cells
  obtain⟨q0,q1⟩:=H3.out.y.cells
  obtain⟨o,ho⟩:∃o,o=QM ((u:Int)-v):=⟨_,rfl⟩
  rw[<-ho]
  by_cases huv:v<=u
  ·have hd:decide (o>=0)=true:=by rw[ho,decide_eq_true_eq];unfold QM;split<;>first|omega|(split<;>omega)
   have hd2:o>=0:=by simpa using hd
   clear ho;go_upto_region 4 with (fail)
   have HPL:=jq (Zag A A' n m c c' xs ys u v W0.drew HX.out.drew HY.out.drew HMX.out HMY.out hn hm huv);have HSV:=jq (show sv nx (u-v)=sv nx u+sv ny v by have h1:=HSS.out;cases nx<;>cases ny<;>simp_all [sv]<;>omega)
   go_region_held3 (fun w'=>ZcB w w' nx ny A A' n m c c')
    (first
      |exact(H3.out.here hbz).heldS _ _
      |exact(H3.out.here hbz).held
      |exact H3.out.held
      |go_keep)
    (first
      |(go_at_call 221;refine HPL.out.mono ?_;rintro e w1 ⟨A1,n1,c1,zs,rfl,hg1,hc1,mg1,hb1⟩
        have hbz:Below W0.1.size W0 w1:=(Below.refl _ W0).drew.trans hb1;have r0:=(H3.out.here hbz).z.cells.1;have r1:=(H3.out.here hbz).z.cells.2;have f0:=(H3.out.here hbz).z.frozen 0;have f1:=(H3.out.here hbz).z.frozen 1;have HG1:=jq hg1;have HM1:=jq mg1;clear hg1 mg1 hb1))
   all_goals
    go_wp2_with fail
    refine bodyPost_ret (v:=.agg #[.bool nx,.slice A1 n1 c1]) (by simp[results,Tryz.results193,go_sem,r0,r1]) rfl ?_;rw[HPO.out];have H4:=H3.out.here hbz;have hW:=H4.z.lt;refine⟨nx,A1,n1,c1,zs,u-v,rfl,?_,hc1,HM1.out,HSV.out,(H4.bl.setCell (by simp only;omega) _).setCell (by simp only;omega) _⟩;exact(H4.z.apart HG1.out _ _).more (by simp)
  ·have hd:decide (o>=0)=false:=by rw[ho,decide_eq_false_iff_not];unfold QM;split<;>first|omega|(split<;>omega)
   have hd2:¬o>=0:=by simpa using hd
   clear ho;go_upto_region 5 with (fail)
   have HPL:=jq (Zag A' A m n c' c ys xs v u W0.drew HY.out.drew HX.out.drew HMY.out HMX.out hm hn (by omega));have HSV:=jq (show sv ny (v-u)=sv nx u+sv ny v by have h1:=HSS.out;cases nx<;>cases ny<;>simp_all [sv]<;>omega)
   go_region_held3 (fun w'=>ZcB w w' nx ny A A' n m c c')
    (first
      |exact(H3.out.here hbz).heldS _ _
      |exact(H3.out.here hbz).held
      |exact H3.out.held
      |go_keep)
    (first
      |(go_at_call 221;refine HPL.out.mono ?_;rintro e w1 ⟨A1,n1,c1,zs,rfl,hg1,hc1,mg1,hb1⟩
        have hbz:Below W0.1.size W0 w1:=(Below.refl _ W0).drew.trans hb1;have r0:=(H3.out.here hbz).z.cells.1;have r1:=(H3.out.here hbz).z.cells.2;have f0:=(H3.out.here hbz).z.frozen 0;have f1:=(H3.out.here hbz).z.frozen 1;have HG1:=jq hg1;have HM1:=jq mg1;clear hg1 mg1 hb1))
   all_goals
    go_wp2_with fail
    refine bodyPost_ret (v:=.agg #[.bool ny,.slice A1 n1 c1]) (by simp[results,Tryz.results193,go_sem,r0,r1]) rfl ?_;rw[HPO.out];have H4:=H3.out.here hbz;have hW:=H4.z.lt;refine⟨ny,A1,n1,c1,zs,v-u,rfl,?_,hc1,HM1.out,HSV.out,(H4.bl.setCell (by simp only;omega) _).setCell (by simp only;omega) _⟩;exact(H4.z.apart HG1.out _ _).more (by simp)
end
section
theorem Xp(a:List UInt8): -100000000000000000<(QC a).1/\(QC a).1<100000000000000000/\((QC a).2=true->(QC a).1=val a):=by
 unfold QC
 split
 ·rename_i h
  have h1:=Xs (XE a).1;have h2:10^(Qf a).1.length<=10^17:=Nat.pow_le_pow_right (by omega) h;have h3:=Xf a;refine⟨?_,?_,fun _=>rfl⟩<;>(show _<_;simp only;rw[<-h3];unfold sv;split<;>omega)
 ·exact⟨by decide,by decide,fun h=>by simp at h⟩
theorem ZkI(a b:List UInt8)(w:World)(ha:a.length<=100000)(hb:b.length<=100000):Calls Tryz.prog 160 #[S a,S b] w (QD (Qe (val a+val b)) w):=by
 have HSa:=jq (Xi a w (by omega));have HSb:=jq (Xi b w (by omega));have HRa:=jq (YJ a w (by omega));have HRb:=jq (fun W=>YJ b W (by omega));obtain⟨K,hK⟩:∃K:Nat,K=100000:=⟨_,rfl⟩
 have HVA:=jq (Qw (show a.length<=K by omega));have HVB:=jq (Qw (show b.length<=K by omega));have HK:=jq hK;clear hK;have HS:=jq (show sv (Qf a).2 (Qh (Qf a).1)+sv (Qf b).2 (Qh (Qf b).1)=val a+val b by rw[Xf,Xf]);have HPO:=jq (show QD (Qe (val a+val b)) w=fun e w'=>e=.returned (S (Qe (val a+val b)))/\Below w.1.size w w' from rfl);obtain⟨la,ua,ea⟩:=Xp a
 obtain⟨lb,ub,eb⟩:=Xp b
 have HEA:=jq ea;have HEB:=jq eb;clear ea eb;unfold YI at HRa HRb;generalize QD (Qe (val a+val b)) w=post at*;generalize (Qf a).2=na at*;generalize (Qf b).2=nb at*;generalize Qh (Qf a).1=u at*;generalize Qh (Qf b).1=v at*;generalize (QC a).1=m at*;generalize (QC b).1=n at*;generalize (QC a).2=ka at*;generalize (QC b).2=kb at*;clear ha hb;unfold S at*
 go_enter Tryz.func160,Tryz.ntmps160
 go_wp2_with fail
 refine HSa.out.mono ?_;rintro e w1 ⟨rfl,rfl⟩;go_wp2_with fail
 refine HSb.out.mono ?_;rintro e w1 ⟨rfl,rfl⟩
 by_cases hk:ka=true/\kb=true
 ·obtain⟨rfl,rfl⟩:=hk
  have HOF:=jq (ZaL (m+n) (by omega) (by omega) w);rw[HEA.out rfl,HEB.out rfl] at HOF;have hmv:=HEA.out rfl;have hnv:=HEB.out rfl;have HM:=jq hmv;have HN:=jq hnv;clear hmv hnv;rw[<-HM.out,<-HN.out] at HOF;rw[<-HM.out,<-HN.out] at HPO;unfold S at HOF;clear HM HN HRa HRb HS HVA HVB HEA HEB;go_wp2_with fail
  refine HOF.out.mono ?_;rintro e w1 ⟨rfl,rfl⟩;go_wp2_with fail
  rw[HPO.out];exact⟨rfl,Below.refl _ _⟩
 ·have hkk:(if ka=true then kb else false)=false:=by cases ka<;>cases kb<;>simp_all
  clear HEA HEB HSa HSb la ua lb ub
  have hcase:ka=false\/(ka=true/\kb=false):=by cases ka<;>cases kb<;>simp_all
  clear hkk hk
  rcases hcase with rfl|⟨rfl,rfl⟩
  all_goals
   go_wp2_with fail
   refine HRa.out.mono ?_;rintro e w1 ⟨A1,n1,c1,xs,rfl,ho1,hc1,mg1,hb1⟩;have HO1:=jq ho1;have HM1:=jq mg1;clear ho1 mg1 HRa;go_wp2_with fail
   refine(HRb.out _).mono ?_;rintro e w2 ⟨A2,n2,c2,ys,rfl,ho2,hc2,mg2,hb2⟩;have HX1:=jq (HO1.out.here hb2);have HX2:=jq ho2;have HM2:=jq mg2;clear ho2 mg2 HRb;have HL1:=jq (show n1<=K by rw[HX1.out.1];exact HM1.out.len HVA.out);have HL2:=jq (show n2<=K by rw[HX2.out.1];exact HM2.out.len HVB.out);have hb02:=hb1.trans (hb2.mono hb1.size);go_wp2_with fail
   refine(Zbb na nb A1 A2 n1 n2 c1 c2 xs ys u v w2 HX1.out HX2.out HM1.out HM2.out (by have:=HL1.out;have:=HK.out;omega) (by have:=HL2.out;have:=HK.out;omega)).mono ?_;rintro e w3 ⟨ng,A3,n3,c3,zs,r,rfl,ho3,hc3,mg3,hsv,hb3⟩;have HX3:=jq ho3;have HL3:=jq (show n3<=K+1 by rw[HX3.out.1];exact mg3.len (Zi8 hsv HVA.out HVB.out));have HM3:=jq mg3;have HSV:=jq hsv;have hb03:=hb02.trans (hb3.mono hb02.size);clear ho3 mg3 hsv;have HTX:=jq (VM ng A3 n3 c3 zs w3 HX3.out HM3.out.gs (by have:=HL3.out;have:=HK.out;omega));rw[HM3.out.val,XX,HSV.out,HS.out] at HTX;unfold S at HTX;go_wp2_with fail
   refine HTX.out.mono ?_;rintro e w4 ⟨rfl,hb4⟩;go_wp2_with fail
   rw[HPO.out];exact⟨rfl,hb03.trans (hb4.mono hb03.size)⟩
end
end Go.Proofs.YtmfjmngebldanaaGreatDoor
