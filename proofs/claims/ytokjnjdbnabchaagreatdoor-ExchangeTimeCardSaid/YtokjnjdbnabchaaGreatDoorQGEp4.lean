/- N11, N12, N13, N14. -/
import Derived.Test.YtokjnjdbnabchaaGreatDoorQGEp3
import Derived.IntWalk
set_option maxRecDepth 100000
set_option maxHeartbeats 4000000
namespace Go.Proofs.YtokjnjdbnabchaaGreatDoor
open Go.Lib renaming hid→jq
open Go.RowKit Go.Shelf
section
theorem Zbs{x y:Nat}(hx:x<1000000000)(hy:y<1000000000):x*y<=999999998000000001:=Nat.le_trans (Nat.mul_le_mul (show x<=999999999 by omega) (show y<=999999999 by omega)) (by decide)
theorem VP(A A':Option Addr)(n m c c':Nat)(xs ys:List Nat)(u v:Nat)(w:World)(hx:Gr w w.1.size A n xs)(hy:Gr w w.1.size A' m ys)(mx:Mag xs u)(my:Mag ys v)(hn:n<=1000000)(hm:m<=1000000):
 Calls Tryz.prog 145 #[.slice A n c,.slice A' m c'] w (Xy (u*v) w):=by
 have HX:=jq hx;have HY:=jq hy;have HMX:=jq mx;have HMY:=jq my;have HXN:=jq hx.1;have HYN:=jq hy.1;clear hx hy mx my;have HPO:=jq (show Xy (u*v) w=fun e w'=>∃A n c xs,e=.returned (.slice A n c)/\Own U1 1 138 w' w.1.size (.slice A n c) xs/\Mag xs (u*v)/\Below w.1.size w w' from rfl);generalize Xy (u*v) w=post at*;obtain⟨w1,hmk,ho1,hb1⟩:=Zbp w w.1.size (n+m) (n+m) ((n:Int)+m) ((n:Int)+m) (by omega) (by omega) (by omega) (by omega) (Nat.le_refl _)
 have HO1:=jq ho1;clear ho1;have HT0:=jq (TOut.start xs ys);rw[<-HXN.out,<-HYN.out] at HT0;go_enter Tryz.func145,Tryz.ntmps145
 go_wp2_with fail
 clear hmk
 go_loopw [19] (fun i wr=>∃(k:Nat) (os:List Nat),k<=n/\i=.int .i64 k/\Hid (TOut xs ys k os)/\Hid (Own U1 1 138 wr w.1.size (.slice (some ⟨w.1.size,0,none⟩) (n+m) (n+m)) os)/\Below w.1.size w wr) (fun i _=>n-(intOf i).toNat)
 case atStart=>exact⟨0,_,Nat.zero_le _,rfl,HT0,HO1,hb1⟩
 case round=>
  clear HT0 HO1 hb1;obtain⟨i,os0,hi,rfl,HT,HO0,hb0⟩:=hrel
  by_cases hlt:i<n
  ·obtain⟨xb,xo,x,rfl,hxb,hxi,d0⟩:=HX.out.grp hlt
   have d0':=(hb0.cell (p:=⟨xb,xo+i,none⟩) hxb).trans d0;have hx9:=HMX.out.gs.at_ hxi;have HXI:=jq hxi;clear hxi d0;have HZ:=jq (TInv.zero (os0:=os0) (ys:=ys) (i:=i) (x:=x) HT.out.gs);go_wp2_with fail
   clear d0'
   go_loopw [8,26] (fun cy k wr=>∃(j carry:Nat) (os:List Nat),j<=m/\k=.int .i64 j/\cy=.int .u64 carry/\carry<1000000000/\Hid (TInv os0 ys i x j carry os)/\Hid (Own U1 1 138 wr w.1.size (.slice (some ⟨w.1.size,0,none⟩) (n+m) (n+m)) os)/\Below w.1.size w wr) (fun _ k _=>m-(intOf k).toNat)
   case atStart=>exact⟨0,0,os0,Nat.zero_le _,rfl,rfl,by omega,HZ,HO0,hb0⟩
   case round=>
    clear HZ HO0 hb0;obtain⟨j,carry,os,hj,rfl,rfl,hcy,HI,HO,hb⟩:=hrel
    by_cases hjm:j<m
    ·obtain⟨yb,yo,y,rfl,hyb,hyj,e0⟩:=HY.out.grp hjm
     have e0':=(hb.cell (p:=⟨yb,yo+j,none⟩) hyb).trans e0;have hy9:=HMY.out.gs.at_ hyj;obtain⟨gb,go,o,e',_,ho,f1⟩:=(HO.out.sl Qc).grp (i:=i+j) (by omega)
     injection e' with e'
     injection e' with e1 e2
     subst e1;subst e2
     simp only[Nat.zero_add] at f1;have ho9:=HI.out.gs.at_ ho;have HST:=jq (HI.out.step ho hyj hx9 HMY.out.gs);have HOK:=jq ho;have f0:=HO.out.frozen (i+j);have hp:=Zbs hx9 hy9;obtain⟨p,hpe⟩:∃p,p=x*y:=⟨_,rfl⟩
     rw[<-hpe] at hp HST;have hpi:(x:Int)*(y:Int)=(p:Int):=by rw[hpe];simp
     clear hyj ho e0 hpe;have hij:(i:Int)+(j:Int)<(n:Int)+(m:Int):=by omega
     have hij2:((i:Int)+(j:Int)).toNat=i+j:=by omega
     go_wp2_with fail
     go_roundw
     case rel=>
      have h3:=HO.out.setU (i:=i+j) (y:=(carry+(o+p))%1000000000) HOK.out;rw[show(((carry+(o+p))%1000000000:Nat):Int)=((carry:Int)+(o+p))%1000000000 by omega] at h3;refine⟨j+1,(carry+(o+p))/1000000000,os.set (i+j) ((carry+(o+p))%1000000000),by omega,by go_num,by go_num,by omega,HST,?_,?_⟩
      ·show Own _ _ _ _ _ _ _
       with_reducible exact h3
      ·with_reducible exact(hb.setCell (Nat.le_refl _) _)
     case measure=>simp[intOf];omega
    ·obtain rfl:j=m:=by omega
     rw[HYN.out] at HI
     by_cases hm0:j=0
     ·have hmd:decide (0<j)=false:=by simp[hm0]
      obtain rfl:os=os0:=HI.out.none (by rw[<-HYN.out];exact hm0);have HN:=jq (HT.out.next0 HXI.out (List.eq_nil_of_length_eq_zero (by rw[<-HYN.out];exact hm0)));clear hm0;go_wp2_with fail
      go_roundw
      case rel=>exact⟨i+1,os,by omega,by go_num,HN,HO,hb⟩
      case measure=>simp[intOf];omega
     ·have hmd:decide (0<j)=true:=by simp;omega
      have hat:=HT.out.at_ (by rw[<-HXN.out];exact hlt) HI.out;have HN:=jq (HT.out.next HXI.out HI.out);rw[<-HYN.out] at hat HN;obtain⟨gb,go,o,e',_,ho,f1⟩:=(HO.out.sl Qc).grp (i:=i+j) (by omega)
      injection e' with e'
      injection e' with e1 e2
      subst e1;subst e2
      rw[hat] at ho;injection ho with ho;subst ho;simp only[Nat.zero_add] at f1;have f0:=HO.out.frozen (i+j);have HAT:=jq hat;clear hat hm0;have hij:(i:Int)+(j:Int)<(n:Int)+(j:Int):=by omega
      have hij2:((i:Int)+(j:Int)).toNat=i+j:=by omega
      go_wp2_with fail
      go_roundw
      case rel=>
       have h3:=HO.out.setU (i:=i+j) (y:=carry) HAT.out;refine⟨i+1,os.set (i+j) carry,by omega,by go_num,HN,?_,?_⟩
       ·show Own _ _ _ _ _ _ _
        first|with_reducible exact h3|(simp only[Int.natCast_zero,Int.zero_add];exact h3)
       ·with_reducible exact(hb.setCell (Nat.le_refl _) _)
      case measure=>simp[intOf];omega
  ·obtain rfl:i=n:=by omega
   have HV:=jq (show gv os0=u*v by have:=HT.out.val;rw[List.take_of_length_le (by rw[<-HXN.out];omega),HMX.out.val,HMY.out.val] at this;exact this);have HCUT:=jq (Yl (some ⟨w.1.size,0,none⟩) (i+m) (i+m) os0 wr (HO0.out.sl Qc) (Nat.le_refl _) (by omega));go_wp2_with fail
   (with_reducible refine HCUT.out.mono ?_)
   rintro e w3 ⟨j,rfl,hj,hgv,hnz,rfl⟩;go_wp2_with fail
   rw[HPO.out];exact⟨_,j,_,os0.take j,rfl,HO0.out.shrink Qc (by rw[<-HO0.out.facts.1];exact hj),⟨HT.out.gs.take j,hnz,by rw[hgv];exact HV.out⟩,hb0⟩
end
section
def Vn(q r:Nat)(w:World)(e:Ending)(w':World):Prop:=∃A n c xs,e=.returned (.tuple #[.slice A n c,.int .u64 r])/\Own U1 1 138 w' w.1.size (.slice A n c) xs/\Mag xs q/\Below w.1.size w w'
theorem JO(A:Option Addr)(n c:Nat)(xs:List Nat)(u d:Nat)(w:World)(hx:Gr w w.1.size A n xs)(gx:Gs xs)(hu:gv xs=u)(hd0:0<d)(hd:d<1000000000)(hn:n<=1000000):
 Calls Tryz.prog 266 #[.slice A n c,.int .u64 d] w (Vn (u/d) (u%d) w):=by
 have HX:=jq hx;have HG:=jq gx;have HU:=jq hu;have HXN:=jq hx.1;clear hx gx hu;have HPO:=jq (show Vn (u/d) (u%d) w=fun e w'=>∃A n c xs,e=.returned (.tuple #[.slice A n c,.int .u64 (u%d:Nat)])/\Own U1 1 138 w' w.1.size (.slice A n c) xs/\Mag xs (u/d)/\Below w.1.size w w' from rfl);generalize Vn (u/d) (u%d) w=post at*;obtain⟨w1,hmk,ho1,hb1⟩:=Zbp w w.1.size n n (n:Int) (n:Int) rfl rfl (by omega) (by omega) (Nat.le_refl _)
 have HO1:=jq ho1;clear ho1;have HT0:=jq (SgInv.start xs d hd0);rw[<-HXN.out] at HT0;go_enter Tryz.func266,Tryz.ntmps266
 go_wp2_with fail
 clear hmk
 go_loopw [7,8] (fun r i wr=>∃(k rest:Nat) (ii:Int) (os:List Nat),i=.int .i64 ii/\Hid (ii=(k:Int)-1)/\k<=n/\r=.int .u64 rest/\rest<d/\Hid (SgInv xs d k rest os)/\Hid (Own U1 1 138 wr w.1.size (.slice (some ⟨w.1.size,0,none⟩) n n) os)/\Below w.1.size w wr) (fun _ i _=>(intOf i+1).toNat)
 case atStart=>exact⟨n,0,_,_,rfl,by show _=_;rfl,Nat.le_refl _,rfl,hd0,HT0,HO1,hb1⟩
 case round=>
  clear HT0 HO1 hb1;obtain⟨k,rest,ii,os,rfl,HII,hk,rfl,hrd,HI,HO,hb⟩:=hrel
  by_cases hk0:k=0
  ·subst hk0;have hi0:ii<0:=by have:=HII.out;omega
   have HDN:=jq (HI.out.done HU.out);have HCUT:=jq (Yl (some ⟨w.1.size,0,none⟩) n n os wr (HO.out.sl Qc) (Nat.le_refl _) (by omega));go_wp2_with fail
   (with_reducible refine HCUT.out.mono ?_)
   rintro e w3 ⟨j,rfl,hj,hgv,hnz,rfl⟩;go_wp2_with fail
   rw[HPO.out];exact⟨_,j,_,os.take j,by rw[HDN.out.2.2];rfl,HO.out.shrink Qc (by rw[<-HO.out.facts.1];exact hj),⟨HDN.out.1.take j,hnz,by rw[hgv];exact HDN.out.2.1⟩,hb⟩
  ·obtain⟨i,rfl⟩:∃i,k=i+1:=⟨k-1,by omega⟩
   obtain rfl:ii=(i:Int):=by have:=HII.out;omega
   obtain⟨xb,xo,x,rfl,hxb,hxi,d0⟩:=HX.out.grp (i:=i) (by omega)
   have d0':=(hb.cell (p:=⟨xb,xo+i,none⟩) hxb).trans d0;have hx9:=HG.out.at_ hxi;have HST:=jq (HI.out.step hxi HG.out hd);obtain⟨gb,go,o,e',_,ho,f1⟩:=(HO.out.sl Qc).grp (i:=i) (by omega)
   injection e' with e'
   injection e' with e1 e2
   subst e1;subst e2
   simp only[Nat.zero_add] at f1;have HOK:=jq ho;have f0:=HO.out.frozen i;clear ho d0 hxi;obtain⟨X,hX⟩:∃X:Nat,X=rest*1000000000+x:=⟨_,rfl⟩
   have hXi:(rest:Int)*1000000000+(x:Int)=(X:Int):=by rw[hX];simp
   have hXl:X<1000000000000000000:=by omega
   rw[<-hX] at HST;have hq:(X:Int)/(d:Int)=((X/d:Nat):Int):=by simp
   have hr:(X:Int)% (d:Int)=((X%d:Nat):Int):=by simp
   have hql:X/d<=X:=Nat.div_le_self _ _;have hrl:X%d<d:=Nat.mod_lt _ hd0;have hdn:((d:Int)==0)=false:=by simp;omega
   clear hX;generalize X/d=q at*;generalize X%d=r at*;go_wp2_with fail
   go_roundw
   case rel=>
    have h3:=HO.out.setU (i:=i) (y:=q) HOK.out;refine⟨i,r,(i:Int)-1,os.set i q,rfl,by show _=_;rfl,by omega,by rw[hr],hrl,HST,?_,?_⟩
    ·show Own _ _ _ _ _ _ _
     with_reducible exact h3
    ·with_reducible exact(hb.setCell (Nat.le_refl _) _)
   case measure=>simp[intOf]
end
section
def Xq(q r:Nat)(w:World)(e:Ending)(w':World):Prop:=
 ∃A1 n1 c1 qs A2 n2 c2 rs,e=.returned (.tuple #[.slice A1 n1 c1,.slice A2 n2 c2])/\Gr w' w'.1.size A1 n1 qs/\n1<=c1/\Mag qs q/\Gr w' w'.1.size A2 n2 rs/\n2<=c2/\Mag rs r/\Below w.1.size w w'
theorem Zck(A A':Option Addr)(n m c c':Nat)(xs ys:List Nat)(u v:Nat)(w:World)(hx:Gr w w.1.size A n xs)(hy:Gr w w.1.size A' m ys)(mx:Mag xs u)(my:Mag ys v)(hn:n<=1000000)(hm:m<=1000000)(hc:n<=c)(huv:u<v):
 Calls Tryz.prog 199 #[.slice A n c,.slice A' m c'] w (Xq (u/v) (u%v) w):=by
 have HCM:=jq (Xt A A' n m c c' xs ys u v w hx hy mx my hn hm);have HX:=jq hx;have HMX:=jq mx;clear hx hy mx my;have HPO:=jq (show Xq (u/v) (u%v) w=fun e w'=>∃A1 n1 c1 qs A2 n2 c2 rs,e=.returned (.tuple #[.slice A1 n1 c1,.slice A2 n2 c2])/\Gr w' w'.1.size A1 n1 qs/\n1<=c1/\Mag qs (u/v)/\Gr w' w'.1.size A2 n2 rs/\n2<=c2/\Mag rs (u%v)/\Below w.1.size w w' from rfl);generalize Xq (u/v) (u%v) w=post at*;go_enter Tryz.func199,Tryz.ntmps199
 go_wp2_with fail
 (with_reducible refine HCM.out.mono ?_)
 rintro e w1 ⟨r,rfl,hr1,hr2,_,_,hb1⟩;have hr:r<0:=hr1.2 huv;clear hr1 hr2;go_wp2_with fail
 rw[HPO.out];refine⟨none,0,0,[],A,n,c,xs,rfl,Sl.nil,Nat.le_refl _,?_,HX.out.here hb1,hc,?_,hb1⟩
 ·rw[Nat.div_eq_of_lt huv];exact Mag.zero
 ·rw[Nat.mod_eq_of_lt huv];exact HMX.out
theorem Zde(A A':Option Addr)(n c c':Nat)(xs ys:List Nat)(u v:Nat)(w:World)(hx:Gr w w.1.size A n xs)(hy:Gr w w.1.size A' 1 ys)(mx:Mag xs u)(my:Mag ys v)(hn:n<=1000000)(huv:v<=u):
 Calls Tryz.prog 199 #[.slice A n c,.slice A' 1 c'] w (Xq (u/v) (u%v) w):=by
 have HCM:=jq (Xt A A' n 1 c c' xs ys u v w hx hy mx my hn (by omega));obtain⟨yb,yo,y,rfl,hyb,hy0,d0⟩:=hy.grp (i:=0) (by omega)
 have hyv:ys=[y]:=by
  have hl:=hy.1
  cases ys with
  |nil=>simp at hl
  |cons a t=>
   cases t with
   |nil=>simp at hy0;rw[hy0]
   |cons _ _=>simp at hl
 have hv:v=y:=by rw[<-my.val,hyv];simp[gv]
 subst hv;have hv9:=my.gs.at_ hy0
 have hv0:0<v:=by
  rcases Nat.eq_zero_or_pos v with h|h
  ·have:=my.nil_iff.2 h;rw[hyv] at this;simp at this
  ·exact h
 have HX:=jq hx;have HMX:=jq mx;have HD:=jq d0;clear hx hy mx my hyv hy0 d0;have HPO:=jq (show Xq (u/v) (u%v) w=fun e w'=>∃A1 n1 c1 qs A2 n2 c2 rs,e=.returned (.tuple #[.slice A1 n1 c1,.slice A2 n2 c2])/\Gr w' w'.1.size A1 n1 qs/\n1<=c1/\Mag qs (u/v)/\Gr w' w'.1.size A2 n2 rs/\n2<=c2/\Mag rs (u%v)/\Below w.1.size w w' from rfl);generalize Xq (u/v) (u%v) w=post at*;go_enter Tryz.func199,Tryz.ntmps199
 go_wp2_with fail
 (with_reducible refine HCM.out.mono ?_)
 rintro e w1 ⟨r,rfl,hr1,hr2,_,_,hb1⟩;have hr:¬r<0:=fun h=>by have:=hr1.1 h;omega
 have hrd:decide (r<0)=false:=by simpa using hr
 clear hr1 hr2 hr;have d1:=(hb1.cell (p:=⟨yb,yo+0,none⟩) hyb).trans HD.out;rw[Nat.add_zero] at d1;go_wp2_with fail
 (with_reducible refine(JO A n c xs u v w1 (HX.out.here hb1) HMX.out.gs HMX.out.val hv0 hv9 hn).mono ?_)
 rintro e w2 ⟨A1,n1,c1,zs,rfl,ho2,mg2,hb2⟩;have HO2:=jq ho2;have HM2:=jq mg2;have hb02:=hb1.trans (hb2.mono hb1.size);clear ho2 mg2 d1;have hr9:u%v<v:=Nat.mod_lt _ hv0;have HSL:=jq (Sl.lit w2 #[.int .u64 (u%v:Nat)] 138 [u%v] rfl Qc);generalize u%v=rr at*;have HCUT:=jq (Yl (some ⟨w2.1.size,0,none⟩) 1 1 [rr] (w2.alloc (.cells #[.int .u64 rr] 138)) (by have:=HSL.out;simpa using this) (Nat.le_refl _) (by omega));go_wp2_with fail
 (with_reducible refine HCUT.out.mono ?_)
 rintro e w3 ⟨j,rfl,hj,hgv,hnz,rfl⟩;go_wp2_with fail
 rw[HPO.out];refine⟨A1,n1,c1,zs,_,j,1,[rr].take j,rfl,(HO2.out.alloc _).sl Qc,?_,HM2.out,?_,hj,⟨?_,hnz,by rw[hgv];simp[gv]⟩,hb02.alloc hb02.size _⟩
 ·obtain⟨h1,h2,_⟩:=HO2.out.facts;omega
 ·have:=HSL.out.take (m:=j) hj
  simpa using this
 ·refine Gs.take (fun x hx=> ?_) j;simp at hx;omega
end
section
theorem Vo{pre s:List Nat}{i j:Nat}(h:pre.length=i):(pre++s)[i+j]?=s[j]?:=by
 rw[List.getElem?_append_right (by omega)]
 congr 1
 omega
theorem Zbt{pre s:List Nat}{i j d:Nat}(h:pre.length=i):(pre++s).set (i+j) d=pre++s.set j d:=by
 rw[List.set_append_right _ _ (by omega)]
 congr 2
 omega
structure DSt (w:World) (ga gb gq La ca k cb Lq:Nat) (al bs ql:List Nat) (wr:World):Prop where
 a:Own U1 1 138 wr w.1.size (.slice (some ⟨ga,0,none⟩) La ca) al
 b:Own U1 1 138 wr w.1.size (.slice (some ⟨gb,0,none⟩) k cb) bs
 q:Own U1 1 138 wr w.1.size (.slice (some ⟨gq,0,none⟩) Lq Lq) ql
 ab:ga≠gb
 aq:ga≠gq
 bq:gb≠gq
 wa:w.1.size<=ga
 wq:w.1.size<=gq
 bl:Below w.1.size w wr
section
variable {w wr:World} {ga gb gq La ca k cb Lq:Nat} {al bs ql:List Nat}
theorem Own.cellU{wr:World}{base g n c:Nat}{xs:List Nat}(h:Own U1 1 138 wr base (.slice (some ⟨g,0,none⟩) n c) xs){i x:Nat}(hi:xs[i]?=some x):wr.cell? ⟨g,i,none⟩=some (.int .u64 x):=by
 have hl:=(List.getElem?_eq_some_iff.1 hi).1;obtain⟨b,o,y,e,_,hy,hc⟩:=(h.sl Qc).grp (i:=i) (by rw[h.facts.1];exact hl)
 injection e with e;injection e with e1 e2;subst e1;subst e2
 rw[hi] at hy;injection hy with hy;subst hy;simpa using hc
theorem DSt.setA(h:DSt w ga gb gq La ca k cb Lq al bs ql wr){i x y:Nat}(hi:al[i]?=some x):DSt w ga gb gq La ca k cb Lq (al.set i y) bs ql (wr.setCell ⟨ga,i,none⟩ (.int .u64 y)):=
 ⟨h.a.setU hi,h.b.far (by simp[Value.ownBlock];exact fun e=>h.ab e.symm) _,h.q.far (by simp[Value.ownBlock];exact fun e=>h.aq e.symm) _,h.ab,h.aq,h.bq,h.wa,h.wq,h.bl.setCell h.wa _⟩
theorem DSt.setQ(h:DSt w ga gb gq La ca k cb Lq al bs ql wr){i x y:Nat}(hi:ql[i]?=some x):DSt w ga gb gq La ca k cb Lq al bs (ql.set i y) (wr.setCell ⟨gq,i,none⟩ (.int .u64 y)):=
 ⟨h.a.far (by simp[Value.ownBlock];exact h.aq) _,h.b.far (by simp[Value.ownBlock];exact h.bq) _,h.q.setU hi,h.ab,h.aq,h.bq,h.wa,h.wq,h.bl.setCell h.wq _⟩
theorem DSt.drewN(h:DSt w ga gb gq La ca k cb Lq al bs ql wr)(t:Nat):DSt w ga gb gq La ca k cb Lq al bs ql (wr.drewN t):=
 ⟨h.a.drewN t,h.b.drewN t,h.q.drewN t,h.ab,h.aq,h.bq,h.wa,h.wq,bdN h.bl t⟩
theorem DSt.drew(h:DSt w ga gb gq La ca k cb Lq al bs ql wr):DSt w ga gb gq La ca k cb Lq al bs ql wr.drew:=
 ⟨h.a.drew,h.b.drew,h.q.drew,h.ab,h.aq,h.bq,h.wa,h.wq,h.bl.drew⟩
end
theorem QInv.start{ps bs:List Nat}{U D k Lq:Nat}(hp:Mag ps U)(hb:Mag bs D)(hDU:D<=U)(hk:bs.length=k)(hk2:2<=k)(hL:Lq+k=ps.length+2):QInv U D Lq (ps++[0,0]) (List.replicate Lq 0):=by
 have hlen:k<=ps.length:=by
  rcases Nat.lt_or_ge ps.length k with h|h
  ·have:=Xc hp hb (by omega);omega
  ·exact h
 refine⟨(hp.gs.snoc (by omega:0<1000000000)).snoc (by omega:0<1000000000) |> (by simpa using ·),Zch _,?_,?_⟩
 ·rw[List.drop_of_length_le (by simp),Ya,hp.val];simp[gv]
 ·rw[List.drop_append_of_le_length (by omega),Ya];have h1:=XP (show Gs (ps.drop Lq) from fun x hx=>hp.gs x (List.mem_of_mem_drop hx));rw[List.length_drop] at h1;have h2:=VI (fun e=>by rw[e] at hk;simp at hk;omega) hb.nz;rw[hb.val,hk] at h2;have h3:1000000000^(ps.length-Lq)<=1000000000^(k-1):=Nat.pow_le_pow_right (by omega) (by omega);simp[gv]
  omega
theorem Zhe{s:List Nat}{k ak a2 a3:Nat}(h0:s[k+2]?=some ak)(h1:s[k+1]?=some a2)(h2:s[k]?=some a3)(hz:gv (s.drop (k+2+1))=0):
 gv s=1000000000^k*((ak*1000000000+a2)*1000000000+a3)+gv (s.take k):=by
 have hk:=(List.getElem?_eq_some_iff.1 h2).1;rw[Xr s k (by omega),QY s k a3 h2,QY s (k+1) a2 h1,QY s (k+2) ak h0,hz,Nat.mul_zero,Nat.add_zero,Nat.add_comm]
 congr 2
 omega
theorem Zhf{bs:List Nat}{k b1 b2:Nat}(hl:bs.length=k+2)(h1:bs[k+1]?=some b1)(h2:bs[k]?=some b2):gv bs=1000000000^k*(b1*1000000000+b2)+gv (bs.take k):=by
 rw[Xr bs k (by omega),QY bs k b2 h2,QY bs (k+1) b1 h1,List.drop_of_length_le (by omega)];simp only[gv,Nat.mul_zero,Nat.add_zero];rw[Nat.add_comm]
 congr 2
 omega
theorem Mag.top_ne{bs:List Nat}{D k b1:Nat}(h:Mag bs D)(hl:bs.length=k+1)(h1:bs[k]?=some b1):1<=b1:=by
 rcases Nat.eq_zero_or_pos b1 with h0|h0
 ·exfalso
  subst h0
  apply h.nz
  rw[List.getLast?_eq_getElem?,hl];exact h1
 ·exact h0
theorem JP{s:List Nat}{k:Nat}(h:Gs s)(hk:k<=s.length):gv (s.take k)<1000000000^k:=by
 have:=XP (h.take k)
 rwa [List.length_take,Nat.min_eq_left hk] at this
end
end Go.Proofs.YtokjnjdbnabchaaGreatDoor
