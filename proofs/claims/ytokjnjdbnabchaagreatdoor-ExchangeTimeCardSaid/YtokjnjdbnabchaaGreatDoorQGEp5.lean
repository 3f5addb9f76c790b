/- N15. -/
import Derived.Test.YtokjnjdbnabchaaGreatDoorQGEp4
set_option maxRecDepth 100000
set_option maxHeartbeats 8000000
namespace Go.Proofs.YtokjnjdbnabchaaGreatDoor
open Go.Lib renaming hid→jq
section
open Go.RowKit Go.Shelf
theorem Mag.one{s:Nat}(h0:1<=s)(h9:s<1000000000):Mag [s] s:=
 ⟨fun x hx=>by simp at hx;omega,by unfold Nz;simp;omega,by simp[gv]⟩
theorem Zi1{s0 s1 bs:List Nat}{k g q D a borrow:Nat}(h:DInv s0 bs g k borrow s1)(hk:bs.length=k)(hD:gv bs=D)(ha:s0[k]?=some a)(hz:gv (s0.drop (k+1))=0)(hq:q=gv s0/D)(hD0:0<D)(hg1:g<=q+1)(hlt:a<borrow):g=q+1:=by
 have hkl:=(List.getElem?_eq_some_iff.1 ha).1;have e0:=YC ha hz;have hv:=h.val;rw[List.take_of_length_le (by omega:bs.length<=k),hD] at hv;have hl1:=XP (h.gs.take k);rw[List.length_take,Nat.min_eq_left (by rw[h.len];omega)] at hl1;have hbw:1000000000^k*(a+1)<=1000000000^k*borrow:=Nat.mul_le_mul_left _ hlt;rw[Nat.mul_add,Nat.mul_one] at hbw
 have hgq:q<g:=by
  rw[hq,Nat.div_lt_iff_lt_mul hD0];omega
 omega
theorem Zcl(A A':Option Addr)(n m c c':Nat)(xs ys:List Nat)(u v:Nat)(w:World)(hx:Gr w w.1.size A n xs)(hy:Gr w w.1.size A' m ys)(mx:Mag xs u)(my:Mag ys v)(hn:n<=100000)(hm:m<=100000)(hm2:2<=m)(huv:v<=u):
 Calls Tryz.prog 199 #[.slice A n c,.slice A' m c'] w (Xq (u/v) (u%v) w):=by
 have HCM:=jq (Xt A A' n m c c' xs ys u v w hx hy mx my (by omega) (by omega));obtain⟨m1,rfl⟩:∃m1,m=m1+1:=⟨m-1,by omega⟩
 obtain⟨yb,yo,yt,rfl,hyb,hyt,d0⟩:=hy.grp (i:=m1) (by omega)
 have hyt9:=my.gs.at_ hyt;have hyt1:=my.top_ne hy.1.symm hyt;have HX:=jq hx;have HMX:=jq mx;have HY:=jq hy;have HMY:=jq my;have HD:=jq d0;have HXN:=jq hx.1;have HYN:=jq hy.1;clear hx hy mx my hyt d0;have HPO:=jq (show Xq (u/v) (u%v) w=fun e w'=>∃A1 n1 c1 qs A2 n2 c2 rs,e=.returned (.tuple #[.slice A1 n1 c1,.slice A2 n2 c2])/\Gr w' w'.1.size A1 n1 qs/\n1<=c1/\Mag qs (u/v)/\Gr w' w'.1.size A2 n2 rs/\n2<=c2/\Mag rs (u%v)/\Below w.1.size w w' from rfl);generalize Xq (u/v) (u%v) w=post at*;obtain⟨sc,hsc⟩:∃sc,sc=1000000000/(yt+1):=⟨_,rfl⟩
 have hsc1:1<=sc:=by rw[hsc];exact(Nat.le_div_iff_mul_le (by omega)).2 (by omega)
 have hsc9:sc<1000000000:=by rw[hsc];exact Nat.div_lt_self (by omega) (by omega)
 have hsi:(1000000000:Int)/((yt:Int)+1)=(sc:Int):=by rw[hsc];simp
 clear hsc;have HMS:=jq (Mag.one hsc1 hsc9);go_enter Tryz.func199,Tryz.ntmps199
 go_wp2_with fail
 (with_reducible refine HCM.out.mono ?_)
 rintro e w1 ⟨r,rfl,hr1,hr2,_,_,hb1⟩;have hr:¬r<0:=fun h=>by have:=hr1.1 h;omega
 have hrd:decide (r<0)=false:=by simpa using hr
 clear hr1 hr2 hr HCM;have d1:=(hb1.cell (p:=⟨yb,yo+m1,none⟩) hyb).trans HD.out;have hm1b:(((m1+1:Nat):Int)==1)=false:=by simp;omega
 have hm1c:((m1:Int)+1==1)=false:=by simp;omega
 have j1:(((m1+1:Nat):Int)-1).toNat=m1:=by omega
 have hy1:((yt:Int)+1==0)=false:=by simp;omega
 go_wp2_with fail
 have hbA:Below w1.1.size w1 (w1.alloc (.cells #[.int .u64 sc] 138)):=(Below.refl _ _).alloc (Nat.le_refl _) _;have HXA:=jq ((HX.out.here hb1).here hbA)
 have HSA:=jq (show Gr (w1.alloc (.cells #[.int .u64 sc] 138)) (w1.alloc (.cells #[.int .u64 sc] 138)).heap.size (some ⟨w1.1.size,0,none⟩) 1 [sc] by
  have:=Sl.lit w1 #[.int .u64 sc] 138 [sc] rfl Qc;simpa using this)
 have hb2:=hb1.trans (hbA.mono hb1.size);generalize w1.alloc _=W2 at*
 (with_reducible refine(VP A (some ⟨w1.1.size,0,none⟩) n 1 c 1 xs [sc] u sc W2 HXA.out HSA.out HMX.out HMS.out (by omega) (by omega)).mono ?_)
 rintro e w3 ⟨Aa,na,ca,ps,rfl,oa,mga,hb3⟩;have HOa:=jq oa;have HMP:=jq mga;have HNa:=jq oa.facts.1;have hb03:=hb2.trans (hb3.mono hb2.size);clear oa mga HXA HSA d1 j1 hm1b hm1c hy1 hrd
 have hps:ps.length<=200000:=by
  have h1:=XP HMX.out.gs;rw[HMX.out.val,<-HXN.out] at h1
  have h2:u*sc<1000000000^(n+1):=by
   rw[Nat.pow_succ];exact Nat.lt_of_le_of_lt (Nat.mul_le_mul_left u (Nat.le_of_lt hsc9)) (Nat.mul_lt_mul_of_pos_right h1 (by omega))
  have:=HMP.out.len h2
  omega
 go_wp2_with (at_builtin;refine QJ _ rfl (.tmp 55) (.tmp 56) _ rfl Jx Qc Zbo (base:=W2.1.size) (.slice Aa na ca) ps rfl (HOa.out.alloc _) _ _ 2 2 [0,0] rfl (Sl.lit w3 #[.int .u64 0,.int .u64 0] 138 [0,0] rfl Qc) (by omega) (by have:=hb3.size;simp;omega) ?_;intro A4 c4 w4 ho4 hg4 hat4)
 have hb4:Below w.1.size w w4:=Xb (hb03.alloc hb03.size _) hg4 (by have:=hb03.size;simp;omega) (fun g' e=>by
  rcases HOa.out.facts.2.2.2 with ⟨h,_⟩|⟨g,h,hg1,hg2⟩
  ·rw[h] at e;simp[Value.ownBlock] at e
  ·rw[h] at e;simp[Value.ownBlock] at e;have:=hb2.size;omega)
 obtain⟨ga,hga⟩:∃ga,A4=some ⟨ga,0,none⟩:=by
  rcases ho4.facts.2.2.2 with ⟨_,_,h⟩|⟨g,h,_⟩
  ·have:=congrArg List.length h;simp at this
  ·exact⟨g,h⟩
 subst hga
 have hgaw:w.1.size<=ga/\ga<w4.1.size:=by
  rcases ho4.facts.2.2.2 with ⟨h,_⟩|⟨g,h,hg1,hg2⟩
  ·cases h
  ·injection h with h;injection h with h;subst h;have:=hb2.size;omega
 obtain⟨La,hLa⟩:∃La,ps.length+2=La:=⟨_,rfl⟩
 rw[hLa] at ho4;have HLa:=jq hLa;have hLa2:La<=200002:=by omega
 have hca:=ho4.facts.2.1;have hal:=ho4.facts.1;rw[<-hal] at hca;have HO4:=jq (ho4.base_ (hb2.size:w.1.size<=W2.1.size));simp only[hLa];clear ho4 hg4 hat4 hal hLa HOa hbA hb2 hb3 hb03;have hbB:Below w4.1.size w4 (w4.alloc (.cells #[.int .u64 sc] 138)):=(Below.refl _ _).alloc (Nat.le_refl _) _;have HYB:=jq ((HY.out.here hb4).here hbB)
 have HSB:=jq (show Gr (w4.alloc (.cells #[.int .u64 sc] 138)) (w4.alloc (.cells #[.int .u64 sc] 138)).heap.size (some ⟨w4.1.size,0,none⟩) 1 [sc] by
  have:=Sl.lit w4 #[.int .u64 sc] 138 [sc] rfl Qc;simpa using this)
 have hb5:=hb4.trans (hbB.mono hb4.size);have HO5:=jq (HO4.out.below hbB);have hs5:=hbB.size;generalize w4.alloc _=W5 at*
 (with_reducible refine(VP _ (some ⟨w4.1.size,0,none⟩) (m1+1) 1 c' 1 ys [sc] v sc W5 HYB.out HSB.out HMY.out HMS.out (by omega) (by omega)).mono ?_)
 rintro e w6 ⟨Ab,k,cb,bs,rfl,ob,mgb,hb6⟩;have hkb:=ob.facts.1;have HMB:=jq mgb
 have hk2:2<=k:=by
  rw[hkb]
  rcases Nat.lt_or_ge bs.length ys.length with h|h
  ·have h1:=Xc mgb HMY.out h;have:v*1<=v*sc:=Nat.mul_le_mul_left v hsc1
   omega
  ·have:=HYN.out;omega
 have hkp:k<=ps.length:=by
  rw[hkb]
  rcases Nat.lt_or_ge ps.length bs.length with h|h
  ·have h1:=Xc HMP.out mgb h;have:=Nat.mul_le_mul_right sc huv
   omega
  ·exact h
 obtain⟨gb,hgb⟩:∃gb,Ab=some ⟨gb,0,none⟩:=by
  rcases ob.facts.2.2.2 with ⟨_,_,h⟩|⟨g,h,_⟩
  ·rw[h] at hkb;simp at hkb;omega
  ·exact⟨g,h⟩
 subst hgb
 have hgbw:W5.1.size<=gb/\gb<w6.1.size:=by
  rcases ob.facts.2.2.2 with ⟨h,_⟩|⟨g,h,hg1,hg2⟩
  ·cases h
  ·injection h with h;injection h with h;subst h;omega
 have HKB:=jq hkb;have HOB:=jq (ob.base_ hb5.size);have hb06:=hb5.trans (hb6.mono hb5.size);have HO6:=jq (HO5.out.below hb6);clear ob mgb hkb HYB HSB HO4 HO5 hbB;obtain⟨Lq,hLq⟩:∃Lq,Lq+k=La:=⟨La-k,by have:=HLa.out;omega⟩
 have hLqi:(La:Int)-(k:Int)=(Lq:Int):=by omega
 obtain⟨w7,hmk,ho7,hb7⟩:=Zbp w6 w.1.size Lq Lq (Lq:Int) (Lq:Int) rfl rfl (by omega) (by omega) hb06.size
 have HQ0:=jq (QInv.start HMP.out HMB.out (Nat.mul_le_mul_right sc huv) HKB.out.symm hk2 (by have:=HLa.out;omega:Lq+k=ps.length+2))
 have HDS:=jq (show DSt w ga gb w6.1.size La c4 k cb Lq (ps++[0,0]) bs (List.replicate Lq 0) w7 from
  ⟨HO6.out.below hb7,HOB.out.below hb7,ho7,by omega,by have:=hb6.size;omega,by omega,hgaw.1,hb06.size,hb06.trans (hb7.mono hb06.size)⟩)
 have HAL:=jq (show(ps++[0,0]).length=La by rw[List.length_append];exact HLa.out);have HLQ:=jq hLq;have HKP:=jq hkp;have hkLa:k<=La:=by omega
 have hLqa:Lq<=La:=by omega
 have hlq1:1<=Lq:=by have:=HLa.out;omega
 clear hLq ho7 HO6 HOB hb06 hb6 hb5 hb4 hb1 hs5 hgbw hgaw hkp hps HD HX HY HMP;generalize hDv:v*sc=D at*;generalize hUv:u*sc=U at*;have HDV:=jq hDv;have HUV:=jq hUv;clear hDv hUv;generalize ps++[0,0]=al0 at*;generalize w6.1.size=gq at*;go_wp2_with fail
 clear hmk hb7
 go_loopw [13] (fun i wr=>∃(j:Nat) (ii:Int) (al ql:List Nat),i=.int .i64 ii/\Hid (ii=(j:Int)-1)/\j<=Lq/\Hid (al.length=La)/\Hid (ql.length=Lq)/\Hid (QInv U D j al ql)/\Hid (DSt w ga gb gq La c4 k cb Lq al bs ql wr)) (fun i _=>(intOf i+1).toNat)
 case atStart=>exact⟨Lq,_,al0,_,rfl,by show _=_;rfl,Nat.le_refl _,HAL,by show _=_;simp,HQ0,HDS⟩
 case round=>
  clear HAL HQ0 HDS;obtain⟨j,ii,al,ql,rfl,HII,hj,HAL,HQL,HQ,HDS⟩:=hrel
  by_cases hj0:j=0
  ·subst hj0;have hi0:ii<0:=by have:=HII.out;omega
   have hkc:k<=c4:=by omega
   have HDN:=jq HQ.out.done;have HGA:=jq HDS.out.a;have HGQ:=jq HDS.out.q;have hbl:=HDS.out.bl
   have HTK:=jq (show gv (al.take k)=U%D by
    have h1:=HDN.out.2;have h2:=XP HMB.out.gs;rw[HMB.out.val,<-HKB.out] at h2;have h3:=HQ.out.rem;rw[List.drop_zero] at h3;rw[<-h1];have h4:=Xr al k (by rw[HAL.out];omega)
    rcases Nat.eq_zero_or_pos (gv (al.drop k)) with h0|h0
    ·rw[h0] at h4;omega
    ·have:1000000000^k*1<=1000000000^k*gv (al.drop k):=Nat.mul_le_mul_left _ h0
     omega)
   have HCUT:=jq (Yl (some ⟨ga,0,none⟩) k c4 (al.take k) wr ((HGA.out.sl Qc).take hkLa) hkc (by omega));go_wp2_with fail
   (with_reducible refine HCUT.out.mono ?_)
   rintro e w8 ⟨t,rfl,ht,hgv,hnz,rfl⟩;have HSG:=jq (JO (some ⟨ga,0,none⟩) t c4 ((al.take k).take t) (U%D) sc wr (((HGA.out.sl Qc).take hkLa).take ht) ((HQ.out.gsA.take k).take t) (by rw[hgv];exact HTK.out) (by omega) hsc9 (by omega));clear hgv hnz HCUT;go_wp2_with fail
   (with_reducible refine HSG.out.mono ?_)
   rintro e w9 ⟨Ar,nr,cr,rs,rfl,or_,mgr,hb9⟩;have HOR:=jq or_;have HMR:=jq mgr;have HG9:=jq (HGQ.out.below hb9);have HCUT:=jq (Yl (some ⟨gq,0,none⟩) Lq Lq ql w9 (HG9.out.sl Qc) (Nat.le_refl _) (by omega));clear or_ mgr HSG;go_wp2_with fail
   (with_reducible refine HCUT.out.mono ?_)
   rintro e w10 ⟨t',rfl,ht',hgv',hnz',rfl⟩;go_wp2_with fail
   rw[HPO.out];refine⟨_,t',_,ql.take t',_,nr,cr,rs,rfl,(HG9.out.sl Qc).take ht',ht',⟨HQ.out.gsQ.take _,hnz',?_⟩,HOR.out.sl Qc,?_,?_,hbl.trans (hb9.mono hbl.size)⟩
   ·rw[hgv',HDN.out.1,<-HUV.out,<-HDV.out,Nat.mul_div_mul_right _ _ (by omega)]
   ·obtain⟨h1,h2,_⟩:=HOR.out.facts;omega
   ·have:=HMR.out
    rwa [<-HUV.out,<-HDV.out,Nat.mul_mod_mul_right,Nat.mul_div_cancel _ (by omega)] at this
  ·obtain⟨i,rfl⟩:∃i,j=i+1:=⟨j-1,by omega⟩
   obtain rfl:ii=(i:Int):=by have:=HII.out;omega
   obtain⟨k2,hk2e⟩:∃k2,k=k2+2:=⟨k-2,by omega⟩
   have hwl:i+k<La:=by have:=HLQ.out;omega
   obtain⟨p0,hp0⟩:∃p0,p0=i+k:=⟨_,rfl⟩
   obtain⟨p1,hp1⟩:∃p1,p1=i+(k2+1):=⟨_,rfl⟩
   obtain⟨p2,hp2⟩:∃p2,p2=i+k2:=⟨_,rfl⟩
   obtain⟨q1,hq1⟩:∃q1,q1=k2+1:=⟨_,rfl⟩
   obtain⟨ak,hak⟩:∃x,al[i+k]?=some x:=⟨_,List.getElem?_eq_getElem (by rw[HAL.out];omega)⟩
   obtain⟨a2,ha2⟩:∃x,al[i+(k2+1)]?=some x:=⟨_,List.getElem?_eq_getElem (by rw[HAL.out];omega)⟩
   obtain⟨a3,ha3⟩:∃x,al[i+k2]?=some x:=⟨_,List.getElem?_eq_getElem (by rw[HAL.out];omega)⟩
   obtain⟨b1,hb1⟩:∃x,bs[k2+1]?=some x:=⟨_,List.getElem?_eq_getElem (by rw[<-HKB.out];omega)⟩
   obtain⟨b2,hb2⟩:∃x,bs[k2]?=some x:=⟨_,List.getElem?_eq_getElem (by rw[<-HKB.out];omega)⟩
   have hak9:=HQ.out.gsA.at_ hak;have ha29:=HQ.out.gsA.at_ ha2;have ha39:=HQ.out.gsA.at_ ha3;have hb19:=HMB.out.gs.at_ hb1;have hb29:=HMB.out.gs.at_ hb2;have hb11:=HMB.out.top_ne (by rw[<-HKB.out,hk2e]) hb1;have HC0:=jq (HDS.out.a.cellU hak);have HC1:=jq (HDS.out.a.cellU ha2);have HC2:=jq (HDS.out.a.cellU ha3);have HE1:=jq (HDS.out.b.cellU hb1);have HE2:=jq (HDS.out.b.cellU hb2);have HBQ:=jq hb1;have HB2:=jq hb2;have HA3:=jq ha3;have HA0:=jq hak;rw[<-hp0] at HC0;rw[<-hp1] at HC1;rw[<-hp2] at HC2;rw[<-hq1] at HE1 HBQ;rw[<-hp2] at HA3;rw[<-hp0] at HA0
   obtain⟨pre,hpre⟩:∃pre,al.take i=pre:=⟨_,rfl⟩
   obtain⟨s0,hs0⟩:∃s0,al.drop i=s0:=⟨_,rfl⟩
   have hpl:pre.length=i:=by rw[<-hpre,List.length_take,HAL.out];omega
   have hals:al=pre++s0:=by rw[<-hpre,<-hs0,List.take_append_drop]
   have hsl:s0.length=La-i:=by rw[<-hs0,List.length_drop,HAL.out]
   have HSK:=jq (show s0[k]?=some ak by rw[hals,Vo hpl] at hak;exact hak);have hS2:s0[k2+1]?=some a2:=by rw[hals,Vo hpl] at ha2;exact ha2
   have hS3:s0[k2]?=some a3:=by rw[hals,Vo hpl] at ha3;exact ha3
   have hgs0:Gs s0:=fun x hx=>HQ.out.gsA x (by rw[hals];exact List.mem_append_right _ hx)
   have HZ:=jq (show gv (s0.drop (k+1))=0 from Zfl HMB.out.val HKB.out.symm HMB.out.gs (by have:=HQ.out.rem;rw[<-hs0,List.drop_drop];exact this) (by omega));have hWt:=Zhe (k:=k2) (by rw[<-hk2e];exact HSK.out) hS2 hS3 (by rw[<-hk2e];exact HZ.out);have hDt:=Zhf (by rw[<-HKB.out,hk2e]) hb1 hb2;rw[HMB.out.val] at hDt;have hwlo:=JP (k:=k2) hgs0 (by omega);have hdlo:=JP (k:=k2) HMB.out.gs (by rw[<-HKB.out];omega);have hD0:0<D:=by have:=HQ.out.rem;omega
   obtain⟨q,hq⟩:∃q,q=gv s0/D:=⟨_,rfl⟩
   have hqle:q*D<=gv s0:=by rw[hq];exact Nat.div_mul_le_self _ _
   have hqlt:gv s0<(q+1)*D:=by
    have h1:=Nat.div_add_mod (gv s0) D;have h2:=Nat.mod_lt (gv s0) hD0;rw[Nat.mul_comm,<-hq] at h1;rw[Nat.add_mul,Nat.one_mul];omega
   have hq9:q<1000000000:=by
    rw[hq,Nat.div_lt_iff_lt_mul hD0];have h1:=HQ.out.rem;have hx:∃x0,s0[0]?=some x0:=⟨_,List.getElem?_eq_getElem (by omega)⟩;obtain⟨x0,hx0⟩:=hx
    have h2:=QY s0 0 x0 hx0;rw[List.drop_zero] at h2;have h3:al.drop (i+1)=s0.drop (0+1):=by rw[<-hs0,List.drop_drop]
    rw[h3] at h1;have h4:=hgs0.at_ hx0;omega
   obtain⟨top,htop⟩:∃top,ak*1000000000+a2=top:=⟨_,rfl⟩
   rw[htop] at hWt;have HGF:=jq (Zci hWt hDt ha39 hwlo hqle);have HGL:=jq (fun g=>Zdc (g:=g) hWt hDt hwlo hqle);have HGE:=jq (fun g=>Zdd (g:=g) hWt hDt hdlo hb11 hb29 hqlt);have HQD:=jq hq;have HPL:=jq hpl;have HALS:=jq hals;have HSL:=jq hsl;have HGS0:=jq hgs0;have HPRE:=jq hpre;have HS0:=jq hs0;clear hWt hDt hwlo hdlo hqle hqlt hq hS2 hS3 hgs0 hpl hals hsl hpre hs0 hak ha2 ha3 hb1 hb2;have hp0i:(i:Int)+(k:Int)=(p0:Int):=by omega
   have hp1i:(p0:Int)-1=(p1:Int):=by omega
   have hp2i:(p0:Int)-2=(p2:Int):=by omega
   have hk1i:(k:Int)-1=(q1:Int):=by omega
   have hk2i:(k:Int)-2=(k2:Int):=by omega
   have hp0l:p0<La:=by omega
   have hp1l:p1<La:=by omega
   have hp2l:p2<La:=by omega
   have hq1l:q1<k:=by omega
   have hk2l:k2<k:=by omega
   have HP0:=jq hp0;have HK2:=jq hk2e;clear hp0 hp1 hp2 hq1 hk2e;have c0:=HC0.out;have c1:=HC1.out;have c2:=HC2.out;have e1:=HE1.out;have e2:=HE2.out;obtain⟨t1,ht1⟩:∃t1,t1=ak*1000000000:=⟨_,rfl⟩
   have ht1i:(ak:Int)*1000000000=(t1:Int):=by omega
   have htopi:(t1:Int)+(a2:Int)=(top:Int):=by omega
   have ht1l:t1<=999999999000000000:=by omega
   have htopl:top<=999999999999999999:=by omega
   clear ht1 htop;go_upto_region 13 with (fail)
   have iw0:IntKind.i64.wrap (p0:Int)=(p0:Int):=IntWalk.i64_in _ (by omega);have iw1:IntKind.i64.wrap (p1:Int)=(p1:Int):=IntWalk.i64_in _ (by omega);have iw2:IntKind.u64.wrap (t1:Int)=(t1:Int):=IntWalk.u64_in _ (by omega);have iw3:IntKind.u64.wrap (top:Int)=(top:Int):=IntWalk.u64_in _ (by omega)
   go_quiet (fail)
   clear iw0 iw1 iw2 iw3 c0 c1 c2 e1 e2 HC0 HC1 HE1;have HDS1:=jq (HDS.out.drewN nq);clear HDS HC2 HE2;generalize wr.drewN nq=W1 at*;have e1:=HDS1.out.b.cellU HBQ.out;obtain⟨q0,hq0⟩:∃q0,q0=top/b1:=⟨_,rfl⟩
   have hq0i:(top:Int)/(b1:Int)=(q0:Int):=by rw[hq0];simp
   have hq0l:q0<=top:=by rw[hq0];exact Nat.div_le_self _ _
   have HQ0:=jq (show q<=q0 by rw[hq0];exact(Nat.le_div_iff_mul_le (by omega)).2 HGF.out);have HQ0b:=jq (show q0*b1<=top by rw[hq0];exact Nat.div_mul_le_self _ _);obtain⟨g0,hg0⟩:∃g0,g0=min q0 999999999:=⟨_,rfl⟩
   have hg0i:min (q0:Int) 999999999=(g0:Int):=by omega
   have hb1n:((b1:Int)==0)=false:=by simp;omega
   have HG0:=jq hg0;clear hq0 hg0;go_wp2_with fail
   clear e1 hb1n
   go_loopw [15] (fun g wr=>∃gg:Nat,g=.int .u64 gg/\gg<=999999999/\Hid (q<=gg)/\Hid (gg*b1<=top)/\Hid (DSt w ga gb gq La c4 k cb Lq al bs ql wr)) (fun g _=>(intOf g).toNat)
   case atStart=>exact⟨g0,rfl,by have:=HG0.out;omega,by show _<=_;have:=HG0.out;have:=HQ0.out;omega,by show _<=_;exact Nat.le_trans (Nat.mul_le_mul_right _ (by have:=HG0.out;omega)) HQ0b.out,HDS1⟩
   case round=>
    clear HQ0 HQ0b HG0 hq0i hq0l hg0i;clear HDS1;obtain⟨gg,rfl,hgg,HGQ,HGB,HDS2⟩:=hrel
    have e1:=HDS2.out.b.cellU HBQ.out;have c2:=HDS2.out.a.cellU HA3.out;have e2:=HDS2.out.b.cellU HB2.out;obtain⟨m1',hm1'⟩:∃x,x=gg*b1:=⟨_,rfl⟩
    obtain⟨lf,hlf⟩:∃x,x=top-m1':=⟨_,rfl⟩
    obtain⟨m2',hm2'⟩:∃x,x=gg*b2:=⟨_,rfl⟩
    have hm1i:(gg:Int)*(b1:Int)=(m1':Int):=by rw[hm1'];simp
    have hm2i:(gg:Int)*(b2:Int)=(m2':Int):=by rw[hm2'];simp
    have hm1l:m1'<=top:=by rw[hm1'];exact HGB.out
    have hm2l:m2'<=999999998000000001:=by rw[hm2'];exact Zbs (by omega) hb29
    have hlfi:(top:Int)-(m1':Int)=(lf:Int):=by omega
    have hlfl:lf<=top:=by omega
    have HM1:=jq hm1';have HM2:=jq hm2';have HLF:=jq hlf;clear hm1' hm2' hlf;obtain⟨brk,hbrk⟩:∃b:Bool,b=(decide (1000000000<=lf)||decide (m2'<=lf*1000000000+a3)):=⟨_,rfl⟩
    have HBRK:=jq hbrk;clear hbrk;go_upto_region 16 with (fail)
    go_cut [131] (fun s wc=>s=.bool brk/\Hid (DSt w ga gb gq La c4 k cb Lq al bs ql wc))
    case first=>
     by_cases hbig:1000000000<=lf
     ·have hbd:decide (1000000000<=(lf:Int))=true:=by simp;omega
      have hbd2:decide (1000000000<=lf)=true:=by simpa using hbig
      go_quiet (fail)
      go_wp2
      go_meet
      exact⟨by rw[HBRK.out,hbd2];rfl,HDS2.out.drewN _⟩
     ·have hbd:decide (1000000000<=(lf:Int))=false:=by simp;omega
      have hbd2:decide (1000000000<=lf)=false:=by simpa using hbig
      obtain⟨l1,hl1⟩:∃x,x=lf*1000000000:=⟨_,rfl⟩
      obtain⟨l2,hl2⟩:∃x,x=l1+a3:=⟨_,rfl⟩
      have hl1i:(lf:Int)*1000000000=(l1:Int):=by omega
      have hl2i:(l1:Int)+(a3:Int)=(l2:Int):=by omega
      have HLE:=jq (show decide (m2'<=lf*1000000000+a3)=decide (m2'<=l2) by rw[hl2,hl1]);have hll1:l1<=999999999000000000:=by omega
      have hll2:l2<=999999999999999999:=by omega
      clear hl1 hl2;have iw0:IntKind.i64.wrap (p0:Int)=(p0:Int):=IntWalk.i64_in _ (by omega);have iw1:IntKind.i64.wrap (p2:Int)=(p2:Int):=IntWalk.i64_in _ (by omega);have iw5:IntKind.i64.wrap (k2:Int)=(k2:Int):=IntWalk.i64_in _ (by omega);have iw2:IntKind.u64.wrap (l1:Int)=(l1:Int):=IntWalk.u64_in _ (by omega);have iw3:IntKind.u64.wrap (l2:Int)=(l2:Int):=IntWalk.u64_in _ (by omega);have iw4:IntKind.u64.wrap (m2':Int)=(m2':Int):=IntWalk.u64_in _ (by omega)
      go_quiet (fail)
      go_wp2
      go_meet
      exact⟨by rw[HBRK.out,hbd2,HLE.out];rfl,HDS2.out.drewN _⟩
    case rest=>
    clear e1 c2 e2 HDS2;obtain⟨rfl,HDS2⟩:=hcut
    obtain⟨W2,rfl⟩:∃W,W=wc:=⟨_,rfl⟩
    cases brk with
    |false=>
     have hno:lf<1000000000/\lf*1000000000+a3<m2':=by have:=HBRK.out;simp at this;omega
     have HLT:=jq (HGL.out gg HGB.out (by have h1:=HM1.out;have h2:=HM2.out;have h3:=HLF.out;rw[<-h1,<-h2,<-h3];exact hno.2));have hg1:1<=gg:=by have:=HLT.out;omega
     clear hno HBRK;go_wp2_with fail
     go_roundw
     case rel=>
      refine⟨gg-1,by go_num,by omega,?_,?_,HDS2⟩
      ·show _<=_
       have:=HLT.out;omega
      ·show _<=_
       exact Nat.le_trans (Nat.mul_le_mul_right _ (by omega)) HGB.out
     case measure=>simp[intOf];omega
    |true=>
     have HG1:=jq (HGE.out gg HGB.out (by omega) (by
      have h0:=HBRK.out;have h1:=HM1.out;have h2:=HM2.out;have h3:=HLF.out;rw[<-h1,<-h2,<-h3];simp at h0;exact h0))
     clear HBRK HM1 HM2 HLF hm1i hm2i hm1l hm2l hlfi hlfl HGL HGE HGF;have HALS2:=HALS;have HDS3:=jq (show DSt w ga gb gq La c4 k cb Lq (pre++s0) bs ql W2 by have:=HDS2.out;rwa [HALS.out] at this);have HZ0:=jq (DInv.zero (ys:=bs) (g:=gg) HGS0.out);clear HDS2;go_wp2_with fail
     go_loopw [17,136] (fun bo jj wr=>∃(j bor:Nat) (s:List Nat),j<=k/\jj=.int .i64 j/\bo=.int .u64 bor/\bor<=1000000000/\Hid (DInv s0 bs gg j bor s)/\Hid (DSt w ga gb gq La c4 k cb Lq (pre++s) bs ql wr)) (fun _ jj _=>k-(intOf jj).toNat)
     case atStart=>exact⟨0,0,s0,Nat.zero_le _,rfl,rfl,by omega,HZ0,HDS3⟩
     case round=>
      clear HZ0 HDS3;obtain⟨j,bor,s,hjk,rfl,rfl,hbor,HI,HDS⟩:=hrel
      by_cases hlt:j<k
      ·obtain⟨x,hx⟩:∃x,s0[j]?=some x:=⟨_,List.getElem?_eq_getElem (by rw[HSL.out];omega)⟩
       obtain⟨y,hy⟩:∃y,bs[j]?=some y:=⟨_,List.getElem?_eq_getElem (by rw[<-HKB.out];exact hlt)⟩
       have hx9:=HGS0.out.at_ hx;have hy9:=HMB.out.gs.at_ hy;have hsx:s[j]?=some x:=by rw[HI.out.at_ j (Nat.le_refl _)];exact hx
       have hax:(pre++s)[i+j]?=some x:=by rw[Vo HPL.out];exact hsx
       obtain⟨pj,hpj⟩:∃pj,pj=i+j:=⟨_,rfl⟩
       rw[<-hpj] at hax;have hpji:(i:Int)+(j:Int)=(pj:Int):=by omega
       have hpjl:pj<La:=by omega
       have d0:=HDS.out.a.cellU hax;have e0:=HDS.out.b.cellU hy;have f0:=HDS.out.a.frozen pj;have HAX:=jq hax;have HSET:=jq (fun d=>show(pre++s).set pj d=pre++s.set j d by rw[hpj];exact Zbt HPL.out);obtain⟨pp,hpp⟩:∃pp,pp=gg*y:=⟨_,rfl⟩
       have hppi:(gg:Int)*(y:Int)=(pp:Int):=by rw[hpp];simp
       have hppl:pp<=999999998000000001:=by rw[hpp];exact Zbs (by omega) hy9
       have HST:=jq (fun d b' (h1:d<1000000000) (h2:b'<=1000000000) (h3:d+(pp+bor)=x+1000000000*b')=>HI.out.step (d:=d) (b':=b') hx hy h1 h2 (by rw[<-hpp];exact h3));clear hax hpj hpp hsx hx hy
       by_cases hxl:x<(pp+bor)%1000000000
       ·have hxd:decide ((x:Int)<((pp:Int)+(bor:Int))%1000000000)=true:=by simp;omega
        have HN:=jq (HST.out (x+1000000000-(pp+bor)%1000000000) ((pp+bor)/1000000000+1) (by omega) (by omega) (by omega));go_wp2_with fail
        go_roundw
        case rel=>
         have h1:=HDS.out.setA (y:=x+1000000000) HAX.out;have h3:=h1.setA (i:=pj) (x:=x+1000000000) (y:=x+1000000000-(pp+bor)%1000000000) (by rw[List.getElem?_set_self (List.getElem?_eq_some_iff.1 HAX.out).1]);rw[List.set_set,HSET.out,show((x+1000000000:Nat):Int)=(x:Int)+1000000000 by omega,show((x+1000000000-(pp+bor)%1000000000:Nat):Int)=(x:Int)+1000000000-((pp:Int)+bor)%1000000000 by omega] at h3;refine⟨j+1,(pp+bor)/1000000000+1,_,by omega,by go_num,by go_num,by omega,HN,?_⟩
         show DSt _ _ _ _ _ _ _ _ _ _ _ _ _
         with_reducible exact h3
        case measure=>simp[intOf];omega
       ·have hxd:decide ((x:Int)<((pp:Int)+(bor:Int))%1000000000)=false:=by simp;omega
        have HN:=jq (HST.out (x-(pp+bor)%1000000000) ((pp+bor)/1000000000) (by omega) (by omega) (by omega));go_wp2_with fail
        go_roundw
        case rel=>
         have h3:=HDS.out.setA (y:=x-(pp+bor)%1000000000) HAX.out;rw[HSET.out,show((x-(pp+bor)%1000000000:Nat):Int)=(x:Int)-((pp:Int)+bor)%1000000000 by omega] at h3;refine⟨j+1,(pp+bor)/1000000000,_,by omega,by go_num,by go_num,by omega,HN,?_⟩
         show DSt _ _ _ _ _ _ _ _ _ _ _ _ _
         with_reducible exact h3
        case measure=>simp[intOf];omega
      ·obtain rfl:k=j:=by omega
       have hsk:s[k]?=some ak:=by rw[HI.out.at_ k (Nat.le_refl _)];exact HSK.out
       have hap:(pre++s)[p0]?=some ak:=by rw[HP0.out,Vo HPL.out];exact hsk
       have d0:=HDS.out.a.cellU hap;have f0:=HDS.out.a.frozen p0;obtain⟨xq,hxq⟩:∃xq,ql[i]?=some xq:=⟨_,List.getElem?_eq_getElem (by rw[HQL.out];omega)⟩
       have e0:=HDS.out.q.cellU hxq;have g0:=HDS.out.q.frozen i;have haq:=HDS.out.aq;have HAP:=jq hap;have HXQ:=jq hxq;have HSET:=jq (fun(s':List Nat) d=>show(pre++s').set p0 d=pre++s'.set k d by rw[HP0.out];exact Zbt HPL.out);have HLEN:=jq (show pre.length+s.length=La by rw[HPL.out,HI.out.len,HSL.out];omega);clear hap hxq hsk
       by_cases hbk:bor<=ak
       ·have hbd:decide (bor<=ak)=true:=by simpa using hbk
        have HF:=jq (Zii HI.out HKB.out.symm HMB.out.val HSK.out HZ.out HQD.out hD0 HGQ.out hbk);go_wp2_with fail
        go_roundw
        case rel=>
         have h1:=HDS.out.setA (y:=ak-bor) HAP.out;have h2:=h1.setQ (y:=gg) HXQ.out;rw[HSET.out,show((ak-bor:Nat):Int)=(ak:Int)-(bor:Int) by omega] at h2;have h3:=HQ.out.step (s':=s.set k (ak-bor)) (by rw[HQL.out];omega) (by rw[HAL.out];omega) (HI.out.gs.set _ (by omega)) (show gg<1000000000 by omega) (by rw[HS0.out,<-HQD.out];exact HF.out.1) (by rw[HS0.out];exact HF.out.2);rw[HPRE.out] at h3;refine⟨i,(i:Int)-1,_,_,rfl,by show _=_;rfl,by omega,?_,?_,h3,?_⟩
         ·show _=_
          rw[List.length_append,List.length_set];exact HLEN.out
         ·show _=_
          rw[List.length_set];exact HQL.out
         ·show DSt _ _ _ _ _ _ _ _ _ _ _ _ _
          with_reducible exact h2
        case measure=>simp[intOf]
       ·have hbd:decide (bor<=ak)=false:=by simpa using hbk
        have hgq:=Zi1 HI.out HKB.out.symm HMB.out.val HSK.out HZ.out HQD.out hD0 HG1.out (by omega);have hgi:(gg:Int)-1=(q:Int):=by omega
        have hgg1:1<=gg:=by omega
        have HGGQ:=jq hgq;have HZP:=jq (PInv.zero s bs);clear hgq;go_wp2_with fail
        clear d0 e0
        go_loopw [20,200] (fun cy jj wr=>∃(j carry:Nat) (s2:List Nat),j<=k/\jj=.int .i64 j/\cy=.int .u64 carry/\carry<=1/\Hid (PInv s bs j carry s2)/\Hid (DSt w ga gb gq La c4 k cb Lq (pre++s2) bs ql wr)) (fun _ jj _=>k-(intOf jj).toNat)
        case atStart=>exact⟨0,0,s,Nat.zero_le _,rfl,rfl,by omega,HZP,HDS⟩
        case round=>
         clear HZP HDS f0 g0 hlt;obtain⟨j,carry,s2,hjk,rfl,rfl,hcy,HP,HDS⟩:=hrel
         by_cases hlt:j<k
         ·obtain⟨x,hx⟩:∃x,s[j]?=some x:=⟨_,List.getElem?_eq_getElem (by rw[HI.out.len,HSL.out];omega)⟩
          obtain⟨y,hy⟩:∃y,bs[j]?=some y:=⟨_,List.getElem?_eq_getElem (by rw[<-HKB.out];exact hlt)⟩
          have hx9:=HI.out.gs.at_ hx;have hy9:=HMB.out.gs.at_ hy;have hax:(pre++s2)[i+j]?=some x:=by rw[Vo HPL.out];exact HP.out.at_ hx
          obtain⟨pj,hpj⟩:∃pj,pj=i+j:=⟨_,rfl⟩
          rw[<-hpj] at hax;have hpji:(i:Int)+(j:Int)=(pj:Int):=by omega
          have hpjl:pj<La:=by omega
          have d0:=HDS.out.a.cellU hax;have e0:=HDS.out.b.cellU hy;have f0:=HDS.out.a.frozen pj;have hne:gb≠ga:=fun e=>HDS.out.ab e.symm
          have HAX:=jq hax;have HSETj:=jq (fun d=>show(pre++s2).set pj d=pre++s2.set j d by rw[hpj];exact Zbt HPL.out);obtain⟨yc,hyc⟩:∃yc,yc=y+carry:=⟨_,rfl⟩
          obtain⟨xs',hxs'⟩:∃t,t=x+yc:=⟨_,rfl⟩
          have hyci:(y:Int)+(carry:Int)=(yc:Int):=by omega
          have hxsi:(x:Int)+(yc:Int)=(xs':Int):=by omega
          have hycl:yc<=1000000000:=by omega
          have hxsl:xs'<=1999999999:=by omega
          have HST:=jq (HP.out.step hx HI.out.gs HMB.out.gs);rw[show gAt bs j=y by unfold gAt;simp[List.getD,hy],show x+carry+y=xs' by omega] at HST;clear hax hpj hyc hxs' hx hy;go_upto_region 37 with (fail)
          have iw0:IntKind.i64.wrap (pj:Int)=(pj:Int):=IntWalk.i64_in _ (by omega);have iw1:IntKind.u64.wrap (yc:Int)=(yc:Int):=IntWalk.u64_in _ (by omega);have iw2:IntKind.u64.wrap (xs':Int)=(xs':Int):=IntWalk.u64_in _ (by omega)
          go_region
          all_goals
           clear iw0 iw1 iw2;go_wp2_with fail
           go_roundw
           case rel=>
            have h1:=HDS.out.setA (y:=xs') HAX.out;have h3:=h1.setA (i:=pj) (x:=xs') (y:=xs'%1000000000) (by rw[List.getElem?_set_self (List.getElem?_eq_some_iff.1 HAX.out).1]);rw[List.set_set,HSETj.out,show((xs'%1000000000:Nat):Int)=(xs':Int)%1000000000 by omega] at h3;refine⟨j+1,xs'/1000000000,_,by omega,by go_num,by go_num,by omega,HST,?_⟩
            show DSt _ _ _ _ _ _ _ _ _ _ _ _ _
            with_reducible exact h3.drew
           case measure=>simp[intOf];omega
         ·obtain rfl:k=j:=by omega
          have HB:=jq (Zij HI.out HKB.out.symm HMB.out.gs HMB.out.val HSK.out HZ.out HQD.out hD0 HG1.out (by omega) HP.out);have hap:(pre++s2)[p0]?=some ak:=by rw[HP0.out,Vo HPL.out];exact HB.out.2.2.1
          have d0:=HDS.out.a.cellU hap;have f0:=HDS.out.a.frozen p0;have e0:=HDS.out.q.cellU HXQ.out;have g0:=HDS.out.q.frozen i;have HAP2:=jq hap;have hac:(ak:Int)+(carry:Int)=(bor:Int):=by have:=HB.out.2.1;omega
          clear hap;go_wp2_with fail
          go_roundw
          case rel=>
           have h1:=HDS.out.setA (y:=0) HAP2.out;have h2:=h1.setQ (y:=q) HXQ.out;rw[HSET.out] at h2;have h3:=HQ.out.step (s':=s2.set k 0) (by rw[HQL.out];omega) (by rw[HAL.out];omega) (HB.out.2.2.2.2.set _ (by omega)) hq9 (by rw[HS0.out,<-HQD.out]) (by rw[HS0.out];exact HB.out.2.2.2.1);rw[HPRE.out] at h3;refine⟨i,(i:Int)-1,_,_,rfl,by show _=_;rfl,by omega,?_,?_,h3,?_⟩
           ·show _=_
            rw[List.length_append,List.length_set,HP.out.len];exact HLEN.out
           ·show _=_
            rw[List.length_set];exact HQL.out
           ·show DSt _ _ _ _ _ _ _ _ _ _ _ _ _
            first|with_reducible exact h2|(simp only[Int.natCast_zero] at h2;with_reducible exact h2)
          case measure=>simp[intOf]
end
end Go.Proofs.YtokjnjdbnabchaaGreatDoor
