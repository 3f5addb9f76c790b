/- N15, N9, N10, FR. -/
import Derived.Test.YtpnncoinlopndaaGreatDoorQGSm3
import Derived.Deep.RegionHeld3
set_option maxRecDepth 100000
set_option maxHeartbeats 8000000
namespace Go.Proofs.YtpnncoinlopndaaGreatDoor
open Go.Lib renaming hid→hdz
section
open Go.RowKit Go.Shelf
theorem Mag.one{s:Nat}(h0:1≤s)(h9:s<1000000000):Mag [s] s:=
 ⟨fun x hx=>by simp at hx;omega,by unfold Nz;simp;omega,by simp[gv]⟩
theorem Zn2{s0 s1 bs:List Nat}{k g q D a borrow:Nat}(h:DInv s0 bs g k borrow s1)(hk:bs.length=k)(hD:gv bs=D)(ha:s0[k]?=some a)(hz:gv (s0.drop (k+1))=0)(hq:q=gv s0/D)(hD0:0<D)(hg1:g≤q+1)(hlt:a<borrow):g=q+1:=by
 have hkl:=(List.getElem?_eq_some_iff.1 ha).1
 have e0:=ZcW ha hz
 have hv:=h.val
 rw[List.take_of_length_le (by omega:bs.length≤k),hD] at hv
 have hl1:=Zcy (h.gs.take k)
 rw[List.length_take,Nat.min_eq_left (by rw[h.len];omega)] at hl1
 have hbw:1000000000^k*(a+1)≤1000000000^k*borrow:=Nat.mul_le_mul_left _ hlt
 rw[Nat.mul_add,Nat.mul_one] at hbw
 have hgq:q<g:=by
  rw[hq,Nat.div_lt_iff_lt_mul hD0]
  omega
 omega
theorem ZgH(A A':Option Addr)(n m c c':Nat)(xs ys:List Nat)(u v:Nat)(w:World)(hx:Gr w w.heap.size A n xs)(hy:Gr w w.heap.size A' m ys)(mx:Mag xs u)(my:Mag ys v)(hn:n≤100000)(hm:m≤100000)(hm2:2≤m)(huv:v≤u):
 Calls Tryz.prog 194 #[.slice A n c,.slice A' m c'] w (DivPost (u/v) (u%v) w):=by
 have HCM:=hdz (Zbi A A' n m c c' xs ys u v w hx hy mx my (by omega) (by omega))
 obtain⟨m1,rfl⟩:∃m1,m=m1+1:=⟨m-1,by omega⟩
 obtain⟨yb,yo,yt,rfl,hyb,hyt,d0⟩:=hy.grp (i:=m1) (by omega)
 have hyt9:=my.gs.at_ hyt
 have hyt1:=my.top_ne hy.1.symm hyt
 have HX:=hdz hx;have HMX:=hdz mx;have HY:=hdz hy;have HMY:=hdz my;have HD:=hdz d0
 have HXN:=hdz hx.1;have HYN:=hdz hy.1
 clear hx hy mx my hyt d0
 have HPO:=hdz (show DivPost (u/v) (u%v) w=fun e w'=>∃A1 n1 c1 qs A2 n2 c2 rs,e=.returned (.tuple #[.slice A1 n1 c1,.slice A2 n2 c2])∧Gr w' w'.heap.size A1 n1 qs∧n1≤c1∧Mag qs (u/v)∧Gr w' w'.heap.size A2 n2 rs∧n2≤c2∧Mag rs (u%v)∧Below w.heap.size w w' from rfl)
 generalize DivPost (u/v) (u%v) w=post at*
 obtain⟨sc,hsc⟩:∃sc,sc=1000000000/(yt+1):=⟨_,rfl⟩
 have hsc1:1≤sc:=by rw[hsc];exact(Nat.le_div_iff_mul_le (by omega)).2 (by omega)
 have hsc9:sc<1000000000:=by rw[hsc];exact Nat.div_lt_self (by omega) (by omega)
 have hsi:(1000000000:Int)/((yt:Int)+1)=(sc:Int):=by rw[hsc];simp
 clear hsc
 have HMS:=hdz (Mag.one hsc1 hsc9)
 go_enter Tryz.func194,Tryz.ntmps194
 go_wp2_with fail
 (with_reducible refine HCM.out.mono ?_)
 rintro e w1 ⟨r,rfl,hr1,hr2,_,_,hb1⟩
 have hr:¬r<0:=fun h=>by have:=hr1.1 h;omega
 have hrd:decide (r<0)=false:=by simpa using hr
 clear hr1 hr2 hr HCM
 have d1:=(hb1.cell (p:=⟨yb,yo+m1,none⟩) hyb).trans HD.out
 have hm1b:(((m1+1:Nat):Int)==1)=false:=by simp;omega
 have hm1c:((m1:Int)+1==1)=false:=by simp;omega
 have j1:(((m1+1:Nat):Int)-1).toNat=m1:=by omega
 have hy1:((yt:Int)+1==0)=false:=by simp;omega
 go_wp2_with fail
 have hbA:Below w1.heap.size w1 (w1.alloc (.cells #[.int .u64 sc] 166)):=(Below.refl _ _).alloc (Nat.le_refl _) _
 have HXA:=hdz ((HX.out.here hb1).here hbA)
 have HSA:=hdz (show Gr (w1.alloc (.cells #[.int .u64 sc] 166)) (w1.alloc (.cells #[.int .u64 sc] 166)).heap.size (some ⟨w1.heap.size,0,none⟩) 1 [sc] by
  have:=Sl.lit w1 #[.int .u64 sc] 166 [sc] rfl Zaj;simpa using this)
 have hb2:=hb1.trans (hbA.mono hb1.size)
 generalize w1.alloc _=W2 at*
 (with_reducible refine(Zd5 A (some ⟨w1.heap.size,0,none⟩) n 1 c 1 xs [sc] u sc W2 HXA.out HSA.out HMX.out HMS.out (by omega) (by omega)).mono ?_)
 rintro e w3 ⟨Aa,na,ca,ps,rfl,oa,mga,hb3⟩
 have HOa:=hdz oa;have HMP:=hdz mga;have HNa:=hdz oa.facts.1
 have hb03:=hb2.trans (hb3.mono hb2.size)
 clear oa mga HXA HSA d1 j1 hm1b hm1c hy1 hrd
 have hps:ps.length≤200000:=by
  have h1:=Zcy HMX.out.gs
  rw[HMX.out.val,←HXN.out] at h1
  have h2:u*sc<1000000000^(n+1):=by
   rw[Nat.pow_succ]
   exact Nat.lt_of_le_of_lt (Nat.mul_le_mul_left u (Nat.le_of_lt hsc9)) (Nat.mul_lt_mul_of_pos_right h1 (by omega))
  have:=HMP.out.len h2
  omega
 go_wp2_with (at_builtin;refine Zap _ rfl (.tmp 55) (.tmp 56) _ rfl Zfh Zaj Zhr (base:=W2.heap.size) (.slice Aa na ca) ps rfl (HOa.out.alloc _) _ _ 2 2 [0,0] rfl (Sl.lit w3 #[.int .u64 0,.int .u64 0] 166 [0,0] rfl Zaj) (by omega) (by have:=hb3.size;simp;omega) ?_;intro A4 c4 w4 ho4 hg4 hat4)
 have hb4:Below w.heap.size w w4:=Zae (hb03.alloc hb03.size _) hg4 (by have:=hb03.size;simp;omega) (fun g' e=>by
  rcases HOa.out.facts.2.2.2 with ⟨h,_⟩|⟨g,h,hg1,hg2⟩
  ·rw[h] at e;simp[Value.ownBlock] at e
  ·rw[h] at e;simp[Value.ownBlock] at e;have:=hb2.size;omega)
 obtain⟨ga,hga⟩:∃ga,A4=some ⟨ga,0,none⟩:=by
  rcases ho4.facts.2.2.2 with ⟨_,_,h⟩|⟨g,h,_⟩
  ·have:=congrArg List.length h;simp at this
  ·exact⟨g,h⟩
 subst hga
 have hgaw:w.heap.size≤ga∧ga<w4.heap.size:=by
  rcases ho4.facts.2.2.2 with ⟨h,_⟩|⟨g,h,hg1,hg2⟩
  ·cases h
  ·injection h with h;injection h with h;subst h;have:=hb2.size;omega
 obtain⟨La,hLa⟩:∃La,ps.length+2=La:=⟨_,rfl⟩
 rw[hLa] at ho4
 have HLa:=hdz hLa
 have hLa2:La≤200002:=by omega
 have hca:=ho4.facts.2.1
 have hal:=ho4.facts.1
 rw[←hal] at hca
 have HO4:=hdz (ho4.base_ (hb2.size:w.heap.size≤W2.heap.size))
 simp only[hLa]
 clear ho4 hg4 hat4 hal hLa HOa hbA hb2 hb3 hb03
 have hbB:Below w4.heap.size w4 (w4.alloc (.cells #[.int .u64 sc] 166)):=(Below.refl _ _).alloc (Nat.le_refl _) _
 have HYB:=hdz ((HY.out.here hb4).here hbB)
 have HSB:=hdz (show Gr (w4.alloc (.cells #[.int .u64 sc] 166)) (w4.alloc (.cells #[.int .u64 sc] 166)).heap.size (some ⟨w4.heap.size,0,none⟩) 1 [sc] by
  have:=Sl.lit w4 #[.int .u64 sc] 166 [sc] rfl Zaj;simpa using this)
 have hb5:=hb4.trans (hbB.mono hb4.size)
 have HO5:=hdz (HO4.out.below hbB)
 have hs5:=hbB.size
 generalize w4.alloc _=W5 at*
 (with_reducible refine(Zd5 _ (some ⟨w4.heap.size,0,none⟩) (m1+1) 1 c' 1 ys [sc] v sc W5 HYB.out HSB.out HMY.out HMS.out (by omega) (by omega)).mono ?_)
 rintro e w6 ⟨Ab,k,cb,bs,rfl,ob,mgb,hb6⟩
 have hkb:=ob.facts.1
 have HMB:=hdz mgb
 have hk2:2≤k:=by
  rw[hkb]
  rcases Nat.lt_or_ge bs.length ys.length with h|h
  ·have h1:=ZaC mgb HMY.out h
   have:v*1≤v*sc:=Nat.mul_le_mul_left v hsc1
   omega
  ·have:=HYN.out;omega
 have hkp:k≤ps.length:=by
  rw[hkb]
  rcases Nat.lt_or_ge ps.length bs.length with h|h
  ·have h1:=ZaC HMP.out mgb h
   have:=Nat.mul_le_mul_right sc huv
   omega
  ·exact h
 obtain⟨gb,hgb⟩:∃gb,Ab=some ⟨gb,0,none⟩:=by
  rcases ob.facts.2.2.2 with ⟨_,_,h⟩|⟨g,h,_⟩
  ·rw[h] at hkb;simp at hkb;omega
  ·exact⟨g,h⟩
 subst hgb
 have hgbw:W5.heap.size≤gb∧gb<w6.heap.size:=by
  rcases ob.facts.2.2.2 with ⟨h,_⟩|⟨g,h,hg1,hg2⟩
  ·cases h
  ·injection h with h;injection h with h;subst h;omega
 have HKB:=hdz hkb
 have HOB:=hdz (ob.base_ hb5.size)
 have hb06:=hb5.trans (hb6.mono hb5.size)
 have HO6:=hdz (HO5.out.below hb6)
 clear ob mgb hkb HYB HSB HO4 HO5 hbB
 obtain⟨Lq,hLq⟩:∃Lq,Lq+k=La:=⟨La-k,by have:=HLa.out;omega⟩
 have hLqi:(La:Int)-(k:Int)=(Lq:Int):=by omega
 obtain⟨w7,hmk,ho7,hb7⟩:=Zhs w6 w.heap.size Lq Lq (Lq:Int) (Lq:Int) rfl rfl (by omega) (by omega) hb06.size
 have HQ0:=hdz (QInv.start HMP.out HMB.out (Nat.mul_le_mul_right sc huv) HKB.out.symm hk2 (by have:=HLa.out;omega:Lq+k=ps.length+2))
 have HDS:=hdz (show DSt w ga gb w6.heap.size La c4 k cb Lq (ps++[0,0]) bs (List.replicate Lq 0) w7 from
  ⟨HO6.out.below hb7,HOB.out.below hb7,ho7,by omega,by have:=hb6.size;omega,by omega,hgaw.1,hb06.size,hb06.trans (hb7.mono hb06.size)⟩)
 have HAL:=hdz (show(ps++[0,0]).length=La by rw[List.length_append];exact HLa.out)
 have HLQ:=hdz hLq
 have HKP:=hdz hkp
 have hkLa:k≤La:=by omega
 have hLqa:Lq≤La:=by omega
 have hlq1:1≤Lq:=by have:=HLa.out;omega
 clear hLq ho7 HO6 HOB hb06 hb6 hb5 hb4 hb1 hs5 hgbw hgaw hkp hps HD HX HY HMP
 generalize hDv:v*sc=D at*
 generalize hUv:u*sc=U at*
 have HDV:=hdz hDv;have HUV:=hdz hUv;clear hDv hUv
 generalize ps++[0,0]=al0 at*
 generalize w6.heap.size=gq at*
 go_wp2_with fail
 clear hmk hb7
 go_loopw [13] (fun i wr=>∃(j:Nat) (ii:Int) (al ql:List Nat),i=.int .i64 ii∧Hid (ii=(j:Int)-1)∧j≤Lq∧Hid (al.length=La)∧Hid (ql.length=Lq)∧Hid (QInv U D j al ql)∧Hid (DSt w ga gb gq La c4 k cb Lq al bs ql wr)) (fun i _=>(intOf i+1).toNat)
 case atStart=>exact⟨Lq,_,al0,_,rfl,by show _=_;rfl,Nat.le_refl _,HAL,by show _=_;simp,HQ0,HDS⟩
 case round=>
  clear HAL HQ0 HDS
  obtain⟨j,ii,al,ql,rfl,HII,hj,HAL,HQL,HQ,HDS⟩:=hrel
  by_cases hj0:j=0
  ·subst hj0
   have hi0:ii<0:=by have:=HII.out;omega
   have hkc:k≤c4:=by omega
   have HDN:=hdz HQ.out.done
   have HGA:=hdz HDS.out.a;have HGQ:=hdz HDS.out.q;have hbl:=HDS.out.bl
   have HTK:=hdz (show gv (al.take k)=U%D by
    have h1:=HDN.out.2
    have h2:=Zcy HMB.out.gs
    rw[HMB.out.val,←HKB.out] at h2
    have h3:=HQ.out.rem
    rw[List.drop_zero] at h3
    rw[←h1]
    have h4:=Zbs al k (by rw[HAL.out];omega)
    rcases Nat.eq_zero_or_pos (gv (al.drop k)) with h0|h0
    ·rw[h0] at h4;omega
    ·have:1000000000^k*1≤1000000000^k*gv (al.drop k):=Nat.mul_le_mul_left _ h0
     omega)
   have HCUT:=hdz (ZcH (some ⟨ga,0,none⟩) k c4 (al.take k) wr ((HGA.out.sl Zaj).take hkLa) hkc (by omega))
   go_wp2_with fail
   (with_reducible refine HCUT.out.mono ?_)
   rintro e w8 ⟨t,rfl,ht,hgv,hnz,rfl⟩
   have HSG:=hdz (ZeR (some ⟨ga,0,none⟩) t c4 ((al.take k).take t) (U%D) sc wr (((HGA.out.sl Zaj).take hkLa).take ht) ((HQ.out.gsA.take k).take t) (by rw[hgv];exact HTK.out) (by omega) hsc9 (by omega))
   clear hgv hnz HCUT
   go_wp2_with fail
   (with_reducible refine HSG.out.mono ?_)
   rintro e w9 ⟨Ar,nr,cr,rs,rfl,or_,mgr,hb9⟩
   have HOR:=hdz or_;have HMR:=hdz mgr
   have HG9:=hdz (HGQ.out.below hb9)
   have HCUT:=hdz (ZcH (some ⟨gq,0,none⟩) Lq Lq ql w9 (HG9.out.sl Zaj) (Nat.le_refl _) (by omega))
   clear or_ mgr HSG
   go_wp2_with fail
   (with_reducible refine HCUT.out.mono ?_)
   rintro e w10 ⟨t',rfl,ht',hgv',hnz',rfl⟩
   go_wp2_with fail
   rw[HPO.out]
   refine⟨_,t',_,ql.take t',_,nr,cr,rs,rfl,(HG9.out.sl Zaj).take ht',ht',⟨HQ.out.gsQ.take _,hnz',?_⟩,HOR.out.sl Zaj,?_,?_,hbl.trans (hb9.mono hbl.size)⟩
   ·rw[hgv',HDN.out.1,←HUV.out,←HDV.out,Nat.mul_div_mul_right _ _ (by omega)]
   ·obtain⟨h1,h2,_⟩:=HOR.out.facts;omega
   ·have:=HMR.out
    rwa [←HUV.out,←HDV.out,Nat.mul_mod_mul_right,Nat.mul_div_cancel _ (by omega)] at this
  ·obtain⟨i,rfl⟩:∃i,j=i+1:=⟨j-1,by omega⟩
   obtain rfl:ii=(i:Int):=by have:=HII.out;omega
   obtain⟨k2,hk2e⟩:∃k2,k=k2+2:=⟨k-2,by omega⟩
   have hwl:i+k<La:=by have:=HLQ.out;omega
   obtain⟨p0,hp0⟩:∃p0,p0=i+k:=⟨_,rfl⟩
   obtain⟨p1,hp1⟩:∃p1,p1=i+(k2+1):=⟨_,rfl⟩
   obtain⟨p2,hp2⟩:∃p2,p2=i+k2:=⟨_,rfl⟩
   obtain⟨q1,hq1⟩:∃q1,q1=k2+1:=⟨_,rfl⟩
   obtain⟨ak,hak⟩:∃x,al[i+k]?=some x:=⟨_,List.getElem?_eq_getElem (by rw[HAL.out];omega)⟩
   obtain⟨a2,ha2⟩:∃x,al[i+(k2+1)]?=some x:=⟨_,List.getElem?_eq_getElem (by rw[HAL.out];omega)⟩
   obtain⟨a3,ha3⟩:∃x,al[i+k2]?=some x:=⟨_,List.getElem?_eq_getElem (by rw[HAL.out];omega)⟩
   obtain⟨b1,hb1⟩:∃x,bs[k2+1]?=some x:=⟨_,List.getElem?_eq_getElem (by rw[←HKB.out];omega)⟩
   obtain⟨b2,hb2⟩:∃x,bs[k2]?=some x:=⟨_,List.getElem?_eq_getElem (by rw[←HKB.out];omega)⟩
   have hak9:=HQ.out.gsA.at_ hak;have ha29:=HQ.out.gsA.at_ ha2;have ha39:=HQ.out.gsA.at_ ha3
   have hb19:=HMB.out.gs.at_ hb1;have hb29:=HMB.out.gs.at_ hb2
   have hb11:=HMB.out.top_ne (by rw[←HKB.out,hk2e]) hb1
   have HC0:=hdz (HDS.out.a.cellU hak);have HC1:=hdz (HDS.out.a.cellU ha2);have HC2:=hdz (HDS.out.a.cellU ha3)
   have HE1:=hdz (HDS.out.b.cellU hb1);have HE2:=hdz (HDS.out.b.cellU hb2)
   have HBQ:=hdz hb1;have HB2:=hdz hb2;have HA3:=hdz ha3;have HA0:=hdz hak
   rw[←hp0] at HC0;rw[←hp1] at HC1;rw[←hp2] at HC2;rw[←hq1] at HE1 HBQ;rw[←hp2] at HA3;rw[←hp0] at HA0
   obtain⟨pre,hpre⟩:∃pre,al.take i=pre:=⟨_,rfl⟩
   obtain⟨s0,hs0⟩:∃s0,al.drop i=s0:=⟨_,rfl⟩
   have hpl:pre.length=i:=by rw[←hpre,List.length_take,HAL.out];omega
   have hals:al=pre++s0:=by rw[←hpre,←hs0,List.take_append_drop]
   have hsl:s0.length=La-i:=by rw[←hs0,List.length_drop,HAL.out]
   have HSK:=hdz (show s0[k]?=some ak by rw[hals,Zd6 hpl] at hak;exact hak)
   have hS2:s0[k2+1]?=some a2:=by rw[hals,Zd6 hpl] at ha2;exact ha2
   have hS3:s0[k2]?=some a3:=by rw[hals,Zd6 hpl] at ha3;exact ha3
   have hgs0:Gs s0:=fun x hx=>HQ.out.gsA x (by rw[hals];exact List.mem_append_right _ hx)
   have HZ:=hdz (show gv (s0.drop (k+1))=0 from ZkE HMB.out.val HKB.out.symm HMB.out.gs (by have:=HQ.out.rem;rw[←hs0,List.drop_drop];exact this) (by omega))
   have hWt:=Zmk (k:=k2) (by rw[←hk2e];exact HSK.out) hS2 hS3 (by rw[←hk2e];exact HZ.out)
   have hDt:=Zml (by rw[←HKB.out,hk2e]) hb1 hb2
   rw[HMB.out.val] at hDt
   have hwlo:=ZeS (k:=k2) hgs0 (by omega)
   have hdlo:=ZeS (k:=k2) HMB.out.gs (by rw[←HKB.out];omega)
   have hD0:0<D:=by have:=HQ.out.rem;omega
   obtain⟨q,hq⟩:∃q,q=gv s0/D:=⟨_,rfl⟩
   have hqle:q*D≤gv s0:=by rw[hq];exact Nat.div_mul_le_self _ _
   have hqlt:gv s0<(q+1)*D:=by
    have h1:=Nat.div_add_mod (gv s0) D
    have h2:=Nat.mod_lt (gv s0) hD0
    rw[Nat.mul_comm,←hq] at h1
    rw[Nat.add_mul,Nat.one_mul]
    omega
   have hq9:q<1000000000:=by
    rw[hq,Nat.div_lt_iff_lt_mul hD0]
    have h1:=HQ.out.rem
    have hx:∃x0,s0[0]?=some x0:=⟨_,List.getElem?_eq_getElem (by omega)⟩
    obtain⟨x0,hx0⟩:=hx
    have h2:=ZaZ s0 0 x0 hx0
    rw[List.drop_zero] at h2
    have h3:al.drop (i+1)=s0.drop (0+1):=by rw[←hs0,List.drop_drop]
    rw[h3] at h1
    have h4:=hgs0.at_ hx0
    omega
   obtain⟨top,htop⟩:∃top,ak*1000000000+a2=top:=⟨_,rfl⟩
   rw[htop] at hWt
   have HGF:=hdz (ZgD hWt hDt ha39 hwlo hqle)
   have HGL:=hdz (fun g=>Zh8 (g:=g) hWt hDt hwlo hqle)
   have HGE:=hdz (fun g=>Zh9 (g:=g) hWt hDt hdlo hb11 hb29 hqlt)
   have HQD:=hdz hq;have HPL:=hdz hpl;have HALS:=hdz hals;have HSL:=hdz hsl;have HGS0:=hdz hgs0;have HPRE:=hdz hpre;have HS0:=hdz hs0
   clear hWt hDt hwlo hdlo hqle hqlt hq hS2 hS3 hgs0 hpl hals hsl hpre hs0 hak ha2 ha3 hb1 hb2
   have hp0i:(i:Int)+(k:Int)=(p0:Int):=by omega
   have hp1i:(p0:Int)-1=(p1:Int):=by omega
   have hp2i:(p0:Int)-2=(p2:Int):=by omega
   have hk1i:(k:Int)-1=(q1:Int):=by omega
   have hk2i:(k:Int)-2=(k2:Int):=by omega
   have hp0l:p0<La:=by omega
   have hp1l:p1<La:=by omega
   have hp2l:p2<La:=by omega
   have hq1l:q1<k:=by omega
   have hk2l:k2<k:=by omega
   have HP0:=hdz hp0;have HK2:=hdz hk2e
   clear hp0 hp1 hp2 hq1 hk2e
   have c0:=HC0.out;have c1:=HC1.out;have c2:=HC2.out;have e1:=HE1.out;have e2:=HE2.out
   obtain⟨t1,ht1⟩:∃t1,t1=ak*1000000000:=⟨_,rfl⟩
   have ht1i:(ak:Int)*1000000000=(t1:Int):=by omega
   have htopi:(t1:Int)+(a2:Int)=(top:Int):=by omega
   have ht1l:t1≤999999999000000000:=by omega
   have htopl:top≤999999999999999999:=by omega
   clear ht1 htop
   go_upto_region 13 with (fail)
   have iw0:IntKind.i64.wrap (p0:Int)=(p0:Int):=IntWalk.i64_in _ (by omega)
   have iw1:IntKind.i64.wrap (p1:Int)=(p1:Int):=IntWalk.i64_in _ (by omega)
   have iw2:IntKind.u64.wrap (t1:Int)=(t1:Int):=IntWalk.u64_in _ (by omega)
   have iw3:IntKind.u64.wrap (top:Int)=(top:Int):=IntWalk.u64_in _ (by omega)
   go_quiet (fail)
   clear iw0 iw1 iw2 iw3 c0 c1 c2 e1 e2 HC0 HC1 HE1
   have HDS1:=hdz (HDS.out.drewN nq)
   clear HDS HC2 HE2
   generalize wr.drewN nq=W1 at*
   have e1:=HDS1.out.b.cellU HBQ.out
   obtain⟨q0,hq0⟩:∃q0,q0=top/b1:=⟨_,rfl⟩
   have hq0i:(top:Int)/(b1:Int)=(q0:Int):=by rw[hq0];simp
   have hq0l:q0≤top:=by rw[hq0];exact Nat.div_le_self _ _
   have HQ0:=hdz (show q≤q0 by rw[hq0];exact(Nat.le_div_iff_mul_le (by omega)).2 HGF.out)
   have HQ0b:=hdz (show q0*b1≤top by rw[hq0];exact Nat.div_mul_le_self _ _)
   obtain⟨g0,hg0⟩:∃g0,g0=min q0 999999999:=⟨_,rfl⟩
   have hg0i:min (q0:Int) 999999999=(g0:Int):=by omega
   have hb1n:((b1:Int)==0)=false:=by simp;omega
   have HG0:=hdz hg0
   clear hq0 hg0
   go_wp2_with fail
   clear e1 hb1n
   go_loopw [15] (fun g wr=>∃gg:Nat,g=.int .u64 gg∧gg≤999999999∧Hid (q≤gg)∧Hid (gg*b1≤top)∧Hid (DSt w ga gb gq La c4 k cb Lq al bs ql wr)) (fun g _=>(intOf g).toNat)
   case atStart=>exact⟨g0,rfl,by have:=HG0.out;omega,by show _≤_;have:=HG0.out;have:=HQ0.out;omega,by show _≤_;exact Nat.le_trans (Nat.mul_le_mul_right _ (by have:=HG0.out;omega)) HQ0b.out,HDS1⟩
   case round=>
    clear HQ0 HQ0b HG0 hq0i hq0l hg0i
    clear HDS1
    obtain⟨gg,rfl,hgg,HGQ,HGB,HDS2⟩:=hrel
    have e1:=HDS2.out.b.cellU HBQ.out
    have c2:=HDS2.out.a.cellU HA3.out
    have e2:=HDS2.out.b.cellU HB2.out
    obtain⟨m1',hm1'⟩:∃x,x=gg*b1:=⟨_,rfl⟩
    obtain⟨lf,hlf⟩:∃x,x=top-m1':=⟨_,rfl⟩
    obtain⟨m2',hm2'⟩:∃x,x=gg*b2:=⟨_,rfl⟩
    have hm1i:(gg:Int)*(b1:Int)=(m1':Int):=by rw[hm1'];simp
    have hm2i:(gg:Int)*(b2:Int)=(m2':Int):=by rw[hm2'];simp
    have hm1l:m1'≤top:=by rw[hm1'];exact HGB.out
    have hm2l:m2'≤999999998000000001:=by rw[hm2'];exact Zfi (by omega) hb29
    have hlfi:(top:Int)-(m1':Int)=(lf:Int):=by omega
    have hlfl:lf≤top:=by omega
    have HM1:=hdz hm1';have HM2:=hdz hm2';have HLF:=hdz hlf
    clear hm1' hm2' hlf
    obtain⟨brk,hbrk⟩:∃b:Bool,b=(decide (1000000000≤lf)||decide (m2'≤lf*1000000000+a3)):=⟨_,rfl⟩
    have HBRK:=hdz hbrk;clear hbrk
    go_upto_region 16 with (fail)
    go_cut [131] (fun s wc=>s=.bool brk∧Hid (DSt w ga gb gq La c4 k cb Lq al bs ql wc))
    case first=>
     by_cases hbig:1000000000≤lf
     ·have hbd:decide (1000000000≤(lf:Int))=true:=by simp;omega
      have hbd2:decide (1000000000≤lf)=true:=by simpa using hbig
      go_quiet (fail)
      go_wp2
      go_meet
      exact⟨by rw[HBRK.out,hbd2];rfl,HDS2.out.drewN _⟩
     ·have hbd:decide (1000000000≤(lf:Int))=false:=by simp;omega
      have hbd2:decide (1000000000≤lf)=false:=by simpa using hbig
      obtain⟨l1,hl1⟩:∃x,x=lf*1000000000:=⟨_,rfl⟩
      obtain⟨l2,hl2⟩:∃x,x=l1+a3:=⟨_,rfl⟩
      have hl1i:(lf:Int)*1000000000=(l1:Int):=by omega
      have hl2i:(l1:Int)+(a3:Int)=(l2:Int):=by omega
      have HLE:=hdz (show decide (m2'≤lf*1000000000+a3)=decide (m2'≤l2) by rw[hl2,hl1])
      have hll1:l1≤999999999000000000:=by omega
      have hll2:l2≤999999999999999999:=by omega
      clear hl1 hl2
      have iw0:IntKind.i64.wrap (p0:Int)=(p0:Int):=IntWalk.i64_in _ (by omega)
      have iw1:IntKind.i64.wrap (p2:Int)=(p2:Int):=IntWalk.i64_in _ (by omega)
      have iw5:IntKind.i64.wrap (k2:Int)=(k2:Int):=IntWalk.i64_in _ (by omega)
      have iw2:IntKind.u64.wrap (l1:Int)=(l1:Int):=IntWalk.u64_in _ (by omega)
      have iw3:IntKind.u64.wrap (l2:Int)=(l2:Int):=IntWalk.u64_in _ (by omega)
      have iw4:IntKind.u64.wrap (m2':Int)=(m2':Int):=IntWalk.u64_in _ (by omega)
      go_quiet (fail)
      go_wp2
      go_meet
      exact⟨by rw[HBRK.out,hbd2,HLE.out];rfl,HDS2.out.drewN _⟩
    case rest=>
    clear e1 c2 e2 HDS2
    obtain⟨rfl,HDS2⟩:=hcut
    obtain⟨W2,rfl⟩:∃W,W=wc:=⟨_,rfl⟩
    cases brk with
    |false=>
     have hno:lf<1000000000∧lf*1000000000+a3<m2':=by have:=HBRK.out;simp at this;omega
     have HLT:=hdz (HGL.out gg HGB.out (by have h1:=HM1.out;have h2:=HM2.out;have h3:=HLF.out;rw[←h1,←h2,←h3];exact hno.2))
     have hg1:1≤gg:=by have:=HLT.out;omega
     clear hno HBRK
     go_wp2_with fail
     go_roundw
     case rel=>
      refine⟨gg-1,by go_num,by omega,?_,?_,HDS2⟩
      ·show _≤_
       have:=HLT.out;omega
      ·show _≤_
       exact Nat.le_trans (Nat.mul_le_mul_right _ (by omega)) HGB.out
     case measure=>simp[intOf];omega
    |true=>
     have HG1:=hdz (HGE.out gg HGB.out (by omega) (by
      have h0:=HBRK.out;have h1:=HM1.out;have h2:=HM2.out;have h3:=HLF.out;rw[←h1,←h2,←h3]
      simp at h0;exact h0))
     clear HBRK HM1 HM2 HLF hm1i hm2i hm1l hm2l hlfi hlfl HGL HGE HGF
     have HALS2:=HALS
     have HDS3:=hdz (show DSt w ga gb gq La c4 k cb Lq (pre++s0) bs ql W2 by have:=HDS2.out;rwa [HALS.out] at this)
     have HZ0:=hdz (DInv.zero (ys:=bs) (g:=gg) HGS0.out)
     clear HDS2
     go_wp2_with fail
     go_loopw [17,136] (fun bo jj wr=>∃(j bor:Nat) (s:List Nat),j≤k∧jj=.int .i64 j∧bo=.int .u64 bor∧bor≤1000000000∧Hid (DInv s0 bs gg j bor s)∧Hid (DSt w ga gb gq La c4 k cb Lq (pre++s) bs ql wr)) (fun _ jj _=>k-(intOf jj).toNat)
     case atStart=>exact⟨0,0,s0,Nat.zero_le _,rfl,rfl,by omega,HZ0,HDS3⟩
     case round=>
      clear HZ0 HDS3
      obtain⟨j,bor,s,hjk,rfl,rfl,hbor,HI,HDS⟩:=hrel
      by_cases hlt:j<k
      ·obtain⟨x,hx⟩:∃x,s0[j]?=some x:=⟨_,List.getElem?_eq_getElem (by rw[HSL.out];omega)⟩
       obtain⟨y,hy⟩:∃y,bs[j]?=some y:=⟨_,List.getElem?_eq_getElem (by rw[←HKB.out];exact hlt)⟩
       have hx9:=HGS0.out.at_ hx
       have hy9:=HMB.out.gs.at_ hy
       have hsx:s[j]?=some x:=by rw[HI.out.at_ j (Nat.le_refl _)];exact hx
       have hax:(pre++s)[i+j]?=some x:=by rw[Zd6 HPL.out];exact hsx
       obtain⟨pj,hpj⟩:∃pj,pj=i+j:=⟨_,rfl⟩
       rw[←hpj] at hax
       have hpji:(i:Int)+(j:Int)=(pj:Int):=by omega
       have hpjl:pj<La:=by omega
       have d0:=HDS.out.a.cellU hax
       have e0:=HDS.out.b.cellU hy
       have f0:=HDS.out.a.frozen pj
       have HAX:=hdz hax
       have HSET:=hdz (fun d=>show(pre++s).set pj d=pre++s.set j d by rw[hpj];exact ZgG HPL.out)
       obtain⟨pp,hpp⟩:∃pp,pp=gg*y:=⟨_,rfl⟩
       have hppi:(gg:Int)*(y:Int)=(pp:Int):=by rw[hpp];simp
       have hppl:pp≤999999998000000001:=by rw[hpp];exact Zfi (by omega) hy9
       have HST:=hdz (fun d b' (h1:d<1000000000) (h2:b'≤1000000000) (h3:d+(pp+bor)=x+1000000000*b')=>HI.out.step (d:=d) (b':=b') hx hy h1 h2 (by rw[←hpp];exact h3))
       clear hax hpj hpp hsx hx hy
       by_cases hxl:x<(pp+bor)%1000000000
       ·have hxd:decide ((x:Int)<((pp:Int)+(bor:Int))%1000000000)=true:=by simp;omega
        have HN:=hdz (HST.out (x+1000000000-(pp+bor)%1000000000) ((pp+bor)/1000000000+1) (by omega) (by omega) (by omega))
        go_wp2_with fail
        go_roundw
        case rel=>
         have h1:=HDS.out.setA (y:=x+1000000000) HAX.out
         have h3:=h1.setA (i:=pj) (x:=x+1000000000) (y:=x+1000000000-(pp+bor)%1000000000) (by rw[List.getElem?_set_self (List.getElem?_eq_some_iff.1 HAX.out).1])
         rw[List.set_set,HSET.out,show((x+1000000000:Nat):Int)=(x:Int)+1000000000 by omega,show((x+1000000000-(pp+bor)%1000000000:Nat):Int)=(x:Int)+1000000000-((pp:Int)+bor)%1000000000 by omega] at h3
         refine⟨j+1,(pp+bor)/1000000000+1,_,by omega,by go_num,by go_num,by omega,HN,?_⟩
         show DSt _ _ _ _ _ _ _ _ _ _ _ _ _
         with_reducible exact h3
        case measure=>simp[intOf];omega
       ·have hxd:decide ((x:Int)<((pp:Int)+(bor:Int))%1000000000)=false:=by simp;omega
        have HN:=hdz (HST.out (x-(pp+bor)%1000000000) ((pp+bor)/1000000000) (by omega) (by omega) (by omega))
        go_wp2_with fail
        go_roundw
        case rel=>
         have h3:=HDS.out.setA (y:=x-(pp+bor)%1000000000) HAX.out
         rw[HSET.out,show((x-(pp+bor)%1000000000:Nat):Int)=(x:Int)-((pp:Int)+bor)%1000000000 by omega] at h3
         refine⟨j+1,(pp+bor)/1000000000,_,by omega,by go_num,by go_num,by omega,HN,?_⟩
         show DSt _ _ _ _ _ _ _ _ _ _ _ _ _
         with_reducible exact h3
        case measure=>simp[intOf];omega
      ·obtain rfl:k=j:=by omega
       have hsk:s[k]?=some ak:=by rw[HI.out.at_ k (Nat.le_refl _)];exact HSK.out
       have hap:(pre++s)[p0]?=some ak:=by rw[HP0.out,Zd6 HPL.out];exact hsk
       have d0:=HDS.out.a.cellU hap
       have f0:=HDS.out.a.frozen p0
       obtain⟨xq,hxq⟩:∃xq,ql[i]?=some xq:=⟨_,List.getElem?_eq_getElem (by rw[HQL.out];omega)⟩
       have e0:=HDS.out.q.cellU hxq
       have g0:=HDS.out.q.frozen i
       have haq:=HDS.out.aq
       have HAP:=hdz hap;have HXQ:=hdz hxq
       have HSET:=hdz (fun(s':List Nat) d=>show(pre++s').set p0 d=pre++s'.set k d by rw[HP0.out];exact ZgG HPL.out)
       have HLEN:=hdz (show pre.length+s.length=La by rw[HPL.out,HI.out.len,HSL.out];omega)
       clear hap hxq hsk
       by_cases hbk:bor≤ak
       ·have hbd:decide (bor≤ak)=true:=by simpa using hbk
        have HF:=hdz (Zng HI.out HKB.out.symm HMB.out.val HSK.out HZ.out HQD.out hD0 HGQ.out hbk)
        go_wp2_with fail
        go_roundw
        case rel=>
         have h1:=HDS.out.setA (y:=ak-bor) HAP.out
         have h2:=h1.setQ (y:=gg) HXQ.out
         rw[HSET.out,show((ak-bor:Nat):Int)=(ak:Int)-(bor:Int) by omega] at h2
         have h3:=HQ.out.step (s':=s.set k (ak-bor)) (by rw[HQL.out];omega) (by rw[HAL.out];omega) (HI.out.gs.set _ (by omega)) (show gg<1000000000 by omega) (by rw[HS0.out,←HQD.out];exact HF.out.1) (by rw[HS0.out];exact HF.out.2)
         rw[HPRE.out] at h3
         refine⟨i,(i:Int)-1,_,_,rfl,by show _=_;rfl,by omega,?_,?_,h3,?_⟩
         ·show _=_
          rw[List.length_append,List.length_set];exact HLEN.out
         ·show _=_
          rw[List.length_set];exact HQL.out
         ·show DSt _ _ _ _ _ _ _ _ _ _ _ _ _
          with_reducible exact h2
        case measure=>simp[intOf]
       ·have hbd:decide (bor≤ak)=false:=by simpa using hbk
        have hgq:=Zn2 HI.out HKB.out.symm HMB.out.val HSK.out HZ.out HQD.out hD0 HG1.out (by omega)
        have hgi:(gg:Int)-1=(q:Int):=by omega
        have hgg1:1≤gg:=by omega
        have HGGQ:=hdz hgq
        have HZP:=hdz (PInv.zero s bs)
        clear hgq
        go_wp2_with fail
        clear d0 e0
        go_loopw [20,200] (fun cy jj wr=>∃(j carry:Nat) (s2:List Nat),j≤k∧jj=.int .i64 j∧cy=.int .u64 carry∧carry≤1∧Hid (PInv s bs j carry s2)∧Hid (DSt w ga gb gq La c4 k cb Lq (pre++s2) bs ql wr)) (fun _ jj _=>k-(intOf jj).toNat)
        case atStart=>exact⟨0,0,s,Nat.zero_le _,rfl,rfl,by omega,HZP,HDS⟩
        case round=>
         clear HZP HDS f0 g0 hlt
         obtain⟨j,carry,s2,hjk,rfl,rfl,hcy,HP,HDS⟩:=hrel
         by_cases hlt:j<k
         ·obtain⟨x,hx⟩:∃x,s[j]?=some x:=⟨_,List.getElem?_eq_getElem (by rw[HI.out.len,HSL.out];omega)⟩
          obtain⟨y,hy⟩:∃y,bs[j]?=some y:=⟨_,List.getElem?_eq_getElem (by rw[←HKB.out];exact hlt)⟩
          have hx9:=HI.out.gs.at_ hx
          have hy9:=HMB.out.gs.at_ hy
          have hax:(pre++s2)[i+j]?=some x:=by rw[Zd6 HPL.out];exact HP.out.at_ hx
          obtain⟨pj,hpj⟩:∃pj,pj=i+j:=⟨_,rfl⟩
          rw[←hpj] at hax
          have hpji:(i:Int)+(j:Int)=(pj:Int):=by omega
          have hpjl:pj<La:=by omega
          have d0:=HDS.out.a.cellU hax
          have e0:=HDS.out.b.cellU hy
          have f0:=HDS.out.a.frozen pj
          have hne:gb≠ga:=fun e=>HDS.out.ab e.symm
          have HAX:=hdz hax
          have HSETj:=hdz (fun d=>show(pre++s2).set pj d=pre++s2.set j d by rw[hpj];exact ZgG HPL.out)
          obtain⟨yc,hyc⟩:∃yc,yc=y+carry:=⟨_,rfl⟩
          obtain⟨xs',hxs'⟩:∃t,t=x+yc:=⟨_,rfl⟩
          have hyci:(y:Int)+(carry:Int)=(yc:Int):=by omega
          have hxsi:(x:Int)+(yc:Int)=(xs':Int):=by omega
          have hycl:yc≤1000000000:=by omega
          have hxsl:xs'≤1999999999:=by omega
          have HST:=hdz (HP.out.step hx HI.out.gs HMB.out.gs)
          rw[show gAt bs j=y by unfold gAt;simp[List.getD,hy],show x+carry+y=xs' by omega] at HST
          clear hax hpj hyc hxs' hx hy
          go_upto_region 37 with (fail)
          have iw0:IntKind.i64.wrap (pj:Int)=(pj:Int):=IntWalk.i64_in _ (by omega)
          have iw1:IntKind.u64.wrap (yc:Int)=(yc:Int):=IntWalk.u64_in _ (by omega)
          have iw2:IntKind.u64.wrap (xs':Int)=(xs':Int):=IntWalk.u64_in _ (by omega)
          go_region
          all_goals
           clear iw0 iw1 iw2
           go_wp2_with fail
           go_roundw
           case rel=>
            have h1:=HDS.out.setA (y:=xs') HAX.out
            have h3:=h1.setA (i:=pj) (x:=xs') (y:=xs'%1000000000) (by rw[List.getElem?_set_self (List.getElem?_eq_some_iff.1 HAX.out).1])
            rw[List.set_set,HSETj.out,show((xs'%1000000000:Nat):Int)=(xs':Int)%1000000000 by omega] at h3
            refine⟨j+1,xs'/1000000000,_,by omega,by go_num,by go_num,by omega,HST,?_⟩
            show DSt _ _ _ _ _ _ _ _ _ _ _ _ _
            with_reducible exact h3.drew
           case measure=>simp[intOf];omega
         ·obtain rfl:k=j:=by omega
          have HB:=hdz (Znh HI.out HKB.out.symm HMB.out.gs HMB.out.val HSK.out HZ.out HQD.out hD0 HG1.out (by omega) HP.out)
          have hap:(pre++s2)[p0]?=some ak:=by rw[HP0.out,Zd6 HPL.out];exact HB.out.2.2.1
          have d0:=HDS.out.a.cellU hap
          have f0:=HDS.out.a.frozen p0
          have e0:=HDS.out.q.cellU HXQ.out
          have g0:=HDS.out.q.frozen i
          have HAP2:=hdz hap
          have hac:(ak:Int)+(carry:Int)=(bor:Int):=by have:=HB.out.2.1;omega
          clear hap
          go_wp2_with fail
          go_roundw
          case rel=>
           have h1:=HDS.out.setA (y:=0) HAP2.out
           have h2:=h1.setQ (y:=q) HXQ.out
           rw[HSET.out] at h2
           have h3:=HQ.out.step (s':=s2.set k 0) (by rw[HQL.out];omega) (by rw[HAL.out];omega) (HB.out.2.2.2.2.set _ (by omega)) hq9 (by rw[HS0.out,←HQD.out]) (by rw[HS0.out];exact HB.out.2.2.2.1)
           rw[HPRE.out] at h3
           refine⟨i,(i:Int)-1,_,_,rfl,by show _=_;rfl,by omega,?_,?_,h3,?_⟩
           ·show _=_
            rw[List.length_append,List.length_set,HP.out.len];exact HLEN.out
           ·show _=_
            rw[List.length_set];exact HQL.out
           ·show DSt _ _ _ _ _ _ _ _ _ _ _ _ _
            first|with_reducible exact h2|(simp only[Int.natCast_zero] at h2;with_reducible exact h2)
          case measure=>simp[intOf]
end
section
open Go.RowKit Go.Shelf
def sv(neg:Bool)(u:Nat):Int:=if neg then-(u:Int) else u
theorem Zbj(neg:Bool)(u:Nat):numT neg u=txtL (sv neg u):=rfl
def NumB(w:World)(p:Nat)(neg:Bool)(A:Option Addr)(n c:Nat):Prop:=w.heap[p]?=some (.cells #[.bool neg,.slice A n c] 144 (0,0))
section
variable {w w':World} {p q:Nat} {neg:Bool} {A:Option Addr} {n c:Nat}
theorem NumB.lt(h:NumB w p neg A n c):p<w.heap.size:=(Array.getElem?_eq_some_iff.1 h).1
theorem NumB.cells(h:NumB w p neg A n c):w.cell? ⟨p,0,none⟩=some (.bool neg)∧w.cell? ⟨p,1,none⟩=some (.slice A n c):=
 ⟨cell_of_row w p 0 _ 144 (0,0) h,cell_of_row w p 1 _ 144 (0,0) h⟩
theorem NumB.frozen(h:NumB w p neg A n c)(j:Nat):w.frozen? ⟨p,j,none⟩=false:=by
 unfold NumB at h
 simp[World.frozen?,h]
theorem NumB.below{N:Nat}(h:NumB w p neg A n c)(hb:Below N w w')(hg:p<N):NumB w' p neg A n c:=(hb.block p hg).trans h
theorem NumB.here(h:NumB w p neg A n c)(hb:Below w.heap.size w w'):NumB w' p neg A n c:=h.below hb h.lt
theorem NumB.new(w:World)(neg:Bool)(A:Option Addr)(n c:Nat):NumB (w.alloc (.cells #[.bool neg,.slice A n c] 144)) w.heap.size neg A n c:=heap_alloc_new w _
theorem NumB.far(h:NumB w p neg A n c){a:Addr}(hp:p≠a.block)(u:Value):NumB (w.setCell a u) p neg A n c:=(Below.heap_setCell w a u p hp).trans h
theorem NumB.set_{neg':Bool}{A':Option Addr}{n' c':Nat}(h:NumB w p neg A n c):NumB ((w.setCell ⟨p,0,none⟩ (.bool neg')).setCell ⟨p,1,none⟩ (.slice A' n' c')) p neg' A' n' c':=by
 unfold NumB at h ⊢
 rw[heap_setCell_same _ p 1 _ 144 _ (heap_setCell_same w p 0 _ 144 _ h)]
 rfl
theorem NumB.alloc(h:NumB w p neg A n c)(o:Obj):NumB (w.alloc o) p neg A n c:=(Below.heap_alloc w o p h.lt).trans h
end
def AddPost(s:Int)(w:World)(e:Ending)(w':World):Prop:=
 ∃ng A n c xs r,e=.returned (.agg #[.bool ng,.slice A n c])∧Own U1 1 166 w' w.heap.size (.slice A n c) xs∧Mag xs r∧sv ng r=s∧Below w.heap.size w w'
theorem ZiY(nx ny:Bool)(A A':Option Addr)(n m c c':Nat)(xs ys:List Nat)(u v:Nat)(w:World)(hx:Gr w w.heap.size A n xs)(hy:Gr w w.heap.size A' m ys)(mx:Mag xs u)(my:Mag ys v)(hn:n≤1000000)(hm:m≤1000000):
 Calls Tryz.prog 120 #[.agg #[.bool nx,.slice A n c],.agg #[.bool ny,.slice A' m c']] w (AddPost (sv nx u+sv ny v) w):=by
 have HPO:=hdz (show AddPost (sv nx u+sv ny v) w=fun e w'=>∃ng A n c xs r,e=.returned (.agg #[.bool ng,.slice A n c])∧Own U1 1 166 w' w.heap.size (.slice A n c) xs∧Mag xs r∧sv ng r=sv nx u+sv ny v∧Below w.heap.size w w' from rfl)
 generalize AddPost (sv nx u+sv ny v) w=post at*
 have hb0:Below w.heap.size w (((w.alloc (.cells #[.bool nx,.slice A n c] 144)).alloc (.cells #[.bool ny,.slice A' m c'] 144)).alloc (.cells #[.bool false,.slice none 0 0] 144)):=
  (((Below.refl _ _).alloc (Nat.le_refl _) _).alloc (by simp) _).alloc (by simp;omega) _
 have hN1:=((NumB.new w nx A n c).alloc (.cells #[.bool ny,.slice A' m c'] 144)).alloc (.cells #[.bool false,.slice none 0 0] 144)
 have hN2:NumB (((w.alloc (.cells #[.bool nx,.slice A n c] 144)).alloc (.cells #[.bool ny,.slice A' m c'] 144)).alloc (.cells #[.bool false,.slice none 0 0] 144)) (w.heap.size+1) ny A' m c':=by
  have:=(NumB.new (w.alloc (.cells #[.bool nx,.slice A n c] 144)) ny A' m c').alloc (.cells #[.bool false,.slice none 0 0] 144)
  simpa using this
 have hN3:NumB (((w.alloc (.cells #[.bool nx,.slice A n c] 144)).alloc (.cells #[.bool ny,.slice A' m c'] 144)).alloc (.cells #[.bool false,.slice none 0 0] 144)) (w.heap.size+1+1) false none 0 0:=by
  have:=NumB.new ((w.alloc (.cells #[.bool nx,.slice A n c] 144)).alloc (.cells #[.bool ny,.slice A' m c'] 144)) false none 0 0
  simpa using this
 have HX0:=hdz hx;have HY0:=hdz hy
 have HX:=hdz (hx.here hb0);have HY:=hdz (hy.here hb0);have HMX:=hdz mx;have HMY:=hdz my
 have HB0:=hdz hb0;have HN1:=hdz hN1;have HN2:=hdz hN2;have HN3:=hdz hN3
 obtain⟨p0,p1⟩:=hN1.cells
 obtain⟨q0,q1⟩:=hN2.cells
 clear hx hy mx my hb0 hN1 hN2 hN3
 go_enter Tryz.func120,Tryz.ntmps120
 by_cases hs:nx=ny
 ·subst hs
  have hsb:(nx==nx)=true:=by simp
  go_upto_region 2 with (fail)
  generalize ((w.alloc (.cells #[.bool nx,.slice A n c] 144)).alloc (.cells #[.bool nx,.slice A' m c'] 144)).alloc (.cells #[.bool false,.slice none 0 0] 144)=W0 at*
  have HPL:=hdz (Zht A A' n m c c' xs ys u v W0.drew HX.out.drew HY.out.drew HMX.out HMY.out hn hm)
  have hbw:=HB0.out
  go_region_with (go_at_call 158;refine HPL.out.mono ?_;rintro e w1 ⟨A1,n1,c1,zs,rfl,ho1,mg1,hb1⟩
                  have hbz:Below W0.heap.size W0 w1:=(Below.refl _ W0).drew.trans hb1
                  have r0:=(HN3.out.here hbz).cells.1
                  have r1:=(HN3.out.here hbz).cells.2
                  have f0:=(HN3.out.here hbz).frozen 0
                  have f1:=(HN3.out.here hbz).frozen 1
                  have s0:=(HN1.out.here hbz).cells.1
                  have HO1:=hdz ho1
                  have HG1:=hdz mg1
                  clear ho1 mg1 hb1)
  all_goals
   go_wp2
   refine bodyPost_ret (v:=.agg #[.bool nx,.slice A1 n1 c1]) (by simp[results,Tryz.results120,go_sem,r0,r1]) rfl ?_
   rw[HPO.out]
   have hW:=HN3.out.lt
   have hne:(Value.slice A1 n1 c1).ownBlock≠some (w.heap.size+1+1):=by
    rcases HO1.out.facts.2.2.2 with ⟨rfl,_⟩|⟨g,rfl,hg1,hg2⟩
    ·simp[Value.ownBlock]
    ·simp only[Value.ownBlock];intro h;injection h with h;simp at hg1;omega
   refine⟨nx,A1,n1,c1,zs,u+v,rfl,((HO1.out.far hne _).far hne _).base_ (by simp;omega),HG1.out,by cases nx<;>simp[sv]<;>omega,?_⟩
   exact((HB0.out.trans (hbz.mono HB0.out.size)).setCell (by simp only;omega) _).setCell (by simp only;omega) _
 ·have hsb:(nx==ny)=false:=by cases nx<;>cases ny<;>simp_all
  have HSS:=hdz hs;clear hs
  go_wp2_with fail
  generalize ((w.alloc (.cells #[.bool nx,.slice A n c] 144)).alloc (.cells #[.bool ny,.slice A' m c'] 144)).alloc (.cells #[.bool false,.slice none 0 0] 144)=W0 at*
  refine(Zbi A A' n m c c' xs ys u v W0 HX.out HY.out HMX.out HMY.out hn hm).mono ?_
  rintro e w1 ⟨r,rfl,hr1,hr2,_,_,hb1⟩
  have hp1:=(HN1.out.here hb1).cells;have hq1:=(HN2.out.here hb1).cells
  obtain⟨x0,x1⟩:=hp1
  obtain⟨y0,y1⟩:=hq1
  have fp0:=(HN1.out.here hb1).frozen 0;have fp1:=(HN1.out.here hb1).frozen 1
  have fq0:=(HN2.out.here hb1).frozen 0;have fq1:=(HN2.out.here hb1).frozen 1
  have HR1:=hdz hr1;clear hr1 hr2
  clear p0 p1 q0 q1
  go_upto_if 23 with (fail)
  go_cut [4] (fun s wc=>∃(n1:Bool) (B1 B2:Option Addr) (l1 l2 d1 d2:Nat) (gs1 gs2:List Nat) (a b:Nat),s=.pointer (some ⟨w.heap.size+1+1,0,none⟩)∧Hid (NumB wc w.heap.size n1 B1 l1 d1)∧Hid (∃n2,NumB wc (w.heap.size+1) n2 B2 l2 d2)∧Hid (NumB wc (w.heap.size+1+1) false none 0 0)∧Hid (Gr wc wc.heap.size B1 l1 gs1)∧Hid (Gr wc wc.heap.size B2 l2 gs2)∧Hid (Mag gs1 a)∧Hid (Mag gs2 b)∧b≤a∧l1≤1000000∧Hid (sv n1 (a-b)=sv nx u+sv ny v)∧Below w.heap.size w wc)
  case first=>
   by_cases huv:u<v
   ·have hrn:r<0:=HR1.out.2 huv
    go_wp2_with fail
    go_meet
    have hb2:=HB0.out.trans (hb1.mono HB0.out.size)
    have hb4:=(((hb2.setCell (p:=⟨w.heap.size,0,none⟩) (Nat.le_refl _) (.bool ny)).setCell (p:=⟨w.heap.size,1,none⟩) (Nat.le_refl _) (.slice A' m c')).setCell (p:=⟨w.heap.size+1,0,none⟩) (by simp) (.bool nx)).setCell (p:=⟨w.heap.size+1,1,none⟩) (by simp) (.slice A n c)
    refine⟨ny,A',A,m,n,c',c,ys,xs,v,u,rfl,?_,⟨nx,?_⟩,?_,HY0.out.here hb4,HX0.out.here hb4,HMY,HMX,by omega,hm,?_,hb4⟩
    ·exact(((HN1.out.here hb1).set_).far (by simp) _).far (by simp) _
    ·exact(((HN2.out.here hb1).far (by simp) _).far (by simp) _).set_
    ·exact((((HN3.out.here hb1).far (by simp;omega) _).far (by simp;omega) _).far (by simp) _).far (by simp) _
    ·show sv ny (v-u)=sv nx u+sv ny v
     have h1:=HSS.out
     cases nx<;>cases ny<;>simp_all [sv]<;>omega
   ·have hrn:¬r<0:=fun h=>huv (HR1.out.1 h)
    have hrd:decide (r<0)=false:=by simpa using hrn
    go_wp2_with fail
    go_meet
    exact⟨nx,A,A',n,m,c,c',xs,ys,u,v,rfl,HN1.out.here hb1,⟨ny,HN2.out.here hb1⟩,HN3.out.here hb1,HX.out.here hb1,HY.out.here hb1,HMX,HMY,by omega,hn,by
     show sv nx (u-v)=sv nx u+sv ny v
     have h1:=HSS.out
     cases nx<;>cases ny<;>simp_all [sv]<;>omega,HB0.out.trans (hb1.mono HB0.out.size)⟩
  case rest=>
  clear x0 x1 y0 y1 fp0 fp1 fq0 fq1 HN1 HN2 HN3 HX HY hb1 HR1 HX0 HY0 HMX HMY hn hm HB0
  obtain⟨n1,B1,B2,l1,l2,d1,d2,gs1,gs2,a,b,rfl,HN1,HN2,HN3,HX,HY,HMX,HMY,hba,hl1,HSV,hbc⟩:=hcut
  obtain⟨W2,rfl⟩:∃W,W=wc:=⟨_,rfl⟩
  obtain⟨n2,hN2⟩:=HN2.out
  obtain⟨x0,x1⟩:=HN1.out.cells
  have y1:=hN2.cells.2
  have HN2':=hdz hN2;clear hN2 HN2
  have HPL:=hdz (ZfU B1 B2 l1 l2 d1 d2 gs1 gs2 a b W2.drew HX.out.drew HY.out.drew HMX.out HMY.out hl1 hba)
  go_wp2_with fail
  go_region_with (go_at_call 159;refine HPL.out.mono ?_;rintro e w1 ⟨A1,k1,c1,zs,rfl,ho1,mg1,hb1⟩
                  have hbz:Below W2.heap.size W2 w1:=(Below.refl _ W2).drew.trans hb1
                  have r0:=(HN3.out.here hbz).cells.1
                  have r1:=(HN3.out.here hbz).cells.2
                  have f0:=(HN3.out.here hbz).frozen 0
                  have f1:=(HN3.out.here hbz).frozen 1
                  have s0:=(HN1.out.here hbz).cells.1
                  have HO1:=hdz ho1
                  have HG1:=hdz mg1
                  clear ho1 mg1 hb1)
  all_goals
   go_wp2
   refine bodyPost_ret (v:=.agg #[.bool n1,.slice A1 k1 c1]) (by simp[results,Tryz.results120,go_sem,r0,r1]) rfl ?_
   rw[HPO.out]
   have hW:=HN3.out.lt
   have hne:(Value.slice A1 k1 c1).ownBlock≠some (w.heap.size+1+1):=by
    rcases HO1.out.facts.2.2.2 with ⟨rfl,_⟩|⟨g,rfl,hg1,hg2⟩
    ·simp[Value.ownBlock]
    ·simp only[Value.ownBlock];intro h;injection h with h;simp at hg1;omega
   refine⟨n1,A1,k1,c1,zs,a-b,rfl,((HO1.out.far hne _).far hne _).base_ (by simp;omega),HG1.out,HSV.out,?_⟩
   exact((hbc.trans (hbz.mono hbc.size)).setCell (by simp only;omega) _).setCell (by simp only;omega) _
end
section
open Go.RowKit Go.Shelf
theorem ZaO(a:List UInt8):sv (digL a).2 (valD (digL a).1)=val a:=rfl
theorem Zal{a:List UInt8}{k:Nat}(h:a.length≤k):valD (digL a).1<1000000000^k:=by
 have h1:=ZaT (ZaU a).1
 have h2:=ZaH a
 have h3:10^(digL a).1.length≤10^k:=Nat.pow_le_pow_right (by omega) (by omega)
 have h4:10^k≤1000000000^k:=Nat.pow_le_pow_left (by omega) k
 omega
theorem Zmm{ng:Bool}{r u v k:Nat}{nx ny:Bool}(h:sv ng r=sv nx u+sv ny v)(hu:u<1000000000^k)(hv:v<1000000000^k):r<1000000000^(k+1):=by
 have:r≤u+v:=by cases ng<;>cases nx<;>cases ny<;>simp[sv] at h<;>omega
 rw[Nat.pow_succ]
 omega
def StrPost(l:List UInt8)(w:World)(e:Ending)(w':World):Prop:=e=.returned (S l)∧Below w.heap.size w w'
theorem ZbT(a b:List UInt8)(w:World)(hp:Pow w)(ha:a.length≤100000)(hb:b.length≤100000):Calls Tryz.prog 77 #[S a,S b] w (StrPost (txtL (val a+val b)) w):=by
 have HRa:=hdz (ZaI a w (by omega))
 have HRb:=hdz (fun W=>ZaI b W (by omega))
 obtain⟨K,hK⟩:∃K:Nat,K=100000:=⟨_,rfl⟩
 have hva:=Zal (show a.length≤K by omega)
 have hvb:=Zal (show b.length≤K by omega)
 have HK:=hdz hK;clear hK
 have HS:=hdz (show sv (digL a).2 (valD (digL a).1)+sv (digL b).2 (valD (digL b).1)=val a+val b by rw[ZaO,ZaO])
 have HPO:=hdz (show StrPost (txtL (val a+val b)) w=fun e w'=>e=.returned (S (txtL (val a+val b)))∧Below w.heap.size w w' from rfl)
 unfold ReadPost at HRa HRb
 have HVA:=hdz hva;have HVB:=hdz hvb;have HP:=hdz hp
 generalize StrPost (txtL (val a+val b)) w=post at*
 generalize (digL a).2=na at*
 generalize (digL b).2=nb at*
 generalize valD (digL a).1=u at*
 generalize valD (digL b).1=v at*
 clear ha hb hva hvb hp
 unfold S at*
 go_enter Tryz.func77,Tryz.ntmps77
 go_wp2_with fail
 refine HRa.out.mono ?_
 rintro e w1 ⟨A1,n1,c1,xs,rfl,ho1,mg1,hb1⟩
 have HO1:=hdz ho1;have HM1:=hdz mg1;clear ho1 mg1 HRa
 go_wp2_with fail
 refine(HRb.out _).mono ?_
 rintro e w2 ⟨A2,n2,c2,ys,rfl,ho2,mg2,hb2⟩
 have HO2:=hdz ho2;have HM2:=hdz mg2;clear ho2 mg2 HRb
 have HX1:=hdz ((HO1.out.below hb2).sl Zaj)
 have HX2:=hdz (HO2.out.sl Zaj)
 have HL1:=hdz (show n1≤K by rw[HX1.out.1];exact HM1.out.len HVA.out)
 have HL2:=hdz (show n2≤K by rw[HX2.out.1];exact HM2.out.len HVB.out)
 have hb02:=hb1.trans (hb2.mono hb1.size)
 go_wp2_with fail
 refine(ZiY na nb A1 A2 n1 n2 c1 c2 xs ys u v w2 HX1.out HX2.out HM1.out HM2.out (by have:=HL1.out;have:=HK.out;omega) (by have:=HL2.out;have:=HK.out;omega)).mono ?_
 rintro e w3 ⟨ng,A3,n3,c3,zs,r,rfl,ho3,mg3,hsv,hb3⟩
 have HX3:=hdz (ho3.sl Zaj)
 have HL3:=hdz (show n3≤K+1 by rw[HX3.out.1];exact mg3.len (Zmm hsv HVA.out HVB.out))
 have hcap:n3≤c3:=by obtain⟨h1,h2,_⟩:=ho3.facts;omega
 have HM3:=hdz mg3;have HSV:=hdz hsv
 have hb03:=hb02.trans (hb3.mono hb02.size)
 clear ho3 mg3 hsv
 have HTX:=hdz (ZbS ng A3 n3 c3 zs w3 HX3.out HM3.out.gs hcap (by have:=HL3.out;have:=HK.out;omega) (HP.out.here hb03))
 rw[HM3.out.val,Zbj,HSV.out,HS.out] at HTX
 unfold S at HTX
 go_wp2_with fail
 refine HTX.out.mono ?_
 rintro e w4 ⟨rfl,hb4⟩
 go_wp2_with fail
 rw[HPO.out]
 exact⟨rfl,hb03.trans (hb4.mono hb03.size)⟩
theorem ZlY(nb:Bool)(v:Nat):sv (!nb) v= -sv nb v:=by cases nb<;>simp[sv]
theorem ZcI(a b:List UInt8)(w:World)(hp:Pow w)(ha:a.length≤100000)(hb:b.length≤100000):Calls Tryz.prog 67 #[S a,S b] w (StrPost (txtL (val a-val b)) w):=by
 have HRa:=hdz (fun W=>ZaI a W (by omega))
 have HRb:=hdz (ZaI b w (by omega))
 obtain⟨K,hK⟩:∃K:Nat,K=100000:=⟨_,rfl⟩
 have hva:=Zal (show a.length≤K by omega)
 have hvb:=Zal (show b.length≤K by omega)
 have HK:=hdz hK;clear hK
 have HS:=hdz (show sv (digL a).2 (valD (digL a).1)+sv (!(digL b).2) (valD (digL b).1)=val a-val b by rw[ZlY,ZaO,ZaO];omega)
 have HPO:=hdz (show StrPost (txtL (val a-val b)) w=fun e w'=>e=.returned (S (txtL (val a-val b)))∧Below w.heap.size w w' from rfl)
 unfold ReadPost at HRa HRb
 have HVA:=hdz hva;have HVB:=hdz hvb;have HP:=hdz hp
 generalize StrPost (txtL (val a-val b)) w=post at*
 generalize (digL a).2=na at*
 generalize (digL b).2=nb at*
 generalize valD (digL a).1=u at*
 generalize valD (digL b).1=v at*
 clear ha hb hva hvb hp
 unfold S at*
 go_enter Tryz.func67,Tryz.ntmps67
 go_wp2_with fail
 refine HRb.out.mono ?_
 rintro e w1 ⟨A2,n2,c2,ys,rfl,ho2,mg2,hb1⟩
 have HO2:=hdz ho2;have HM2:=hdz mg2;clear ho2 mg2 HRb
 go_wp2_with fail
 have HN:=hdz (NumB.new w1 (!nb) A2 n2 c2)
 have hbA:=(Below.refl w1.heap.size w1).alloc (Nat.le_refl _) (.cells #[.bool (!nb),.slice A2 n2 c2] 144)
 have HX2:=hdz ((HO2.out.below hbA).sl Zaj)
 have HL2:=hdz (show n2≤K by rw[HX2.out.1];exact HM2.out.len HVB.out)
 have hb0A:=hb1.trans (hbA.mono hb1.size)
 obtain⟨y0,y1⟩:=HN.out.cells
 generalize w1.alloc _=W2 at*
 generalize (!nb)=ny at*
 go_region_with (first
  |(go_at_call 111;refine(HRa.out _).mono ?_;rintro e w2 ⟨A1,n1,c1,xs,rfl,ho1,mg1,hb2⟩
    have hbz:Below W2.heap.size W2 w2:=(Below.refl _ W2).drew.trans hb2
    have z0:=(HN.out.here hbz).cells.1
    have z1:=(HN.out.here hbz).cells.2
    have HX1:=hdz (ho1.sl Zaj)
    have HM1:=hdz mg1
    have HL1:=hdz (show n1≤K by rw[HX1.out.1];exact mg1.len HVA.out)
    have hb02:=hb0A.trans (hbz.mono hb0A.size)
    clear ho1 mg1 hb2)
  |(go_at_call 120;refine(ZiY na ny A1 A2 n1 n2 c1 c2 xs ys u v w2 HX1.out (HX2.out.here hbz) HM1.out HM2.out (by have:=HL1.out;have:=HK.out;omega) (by have:=HL2.out;have:=HK.out;omega)).mono ?_;rintro e w3 ⟨ng,A3,n3,c3,zs,r,rfl,ho3,mg3,hsv,hb3⟩
    have HX3:=hdz (ho3.sl Zaj)
    have HL3:=hdz (show n3≤K+1 by rw[HX3.out.1];exact mg3.len (Zmm hsv HVA.out HVB.out))
    have hcap:n3≤c3:=by obtain⟨h1,h2,_⟩:=ho3.facts;omega
    have HM3:=hdz mg3;have HSV:=hdz hsv
    have hb03:=hb02.trans (hb3.mono hb02.size)
    have HTX:=hdz (ZbS ng A3 n3 c3 zs w3 HX3.out HM3.out.gs hcap (by have:=HL3.out;have:=HK.out;omega) (HP.out.here hb03))
    rw[HM3.out.val,Zbj,HSV.out,HS.out] at HTX
    unfold S at HTX
    clear ho3 mg3 hsv)
  |(go_at_call 121;refine HTX.out.mono ?_;rintro e w4 ⟨rfl,hb4⟩))
 all_goals
  go_wp2_with fail
  go_ret
  rw[HPO.out]
  exact⟨rfl,hb03.trans (hb4.mono hb03.size)⟩
end
section
open Go.RowKit Go.Shelf
theorem Zib{l:List UInt8}(hall:l.all isDig=true)(hz:∀b t,l=b::t→(b==48)=false)(hn:l≠[]):digL (45::l)=(l,true):=by
 have ht:Lib.trimPrefix (45::l) [45]=l:=by simp[Lib.trimPrefix,Lib.hasPrefix,List.isPrefixOf]
 have hp:Lib.hasPrefix (45::l) [45]=true:=by simp[Lib.hasPrefix,List.isPrefixOf]
 cases l with
 |nil=>exact absurd rfl hn
 |cons b t=>
  unfold digL
  simp only[ht,hall,hp,if_true]
  rw[List.dropWhile_cons,hz b t rfl]
  rfl
theorem Zaa(n:Int):val (txtL n)=n:=by
 by_cases h0:n=0
 ·subst h0;decide+kernel
 ·have hne:n.natAbs≠0:=by omega
  obtain⟨b,l,e,h1,h2⟩:=ZcT n.natAbs hne
  rw[Zbh]
  by_cases hn:n<0
  ·rw[if_pos hn]
   have h:=Zib (l:=digs n.natAbs) (ZcS _) (fun c t e'=>by rw[e] at e';injection e' with e1 e2;rw[←e1];exact h1) (by rw[e];simp)
   unfold val
   rw[show([45]++digs n.natAbs:List UInt8)=45::digs n.natAbs from rfl,h]
   simp only[if_true,ZcV]
   omega
  ·rw[if_neg hn,List.nil_append]
   unfold val
   rw[ZeP _ hne]
   simp only[Bool.false_eq_true,if_false,ZcV]
   omega
theorem ZaD:val []=0:=by decide+kernel
theorem ZkF{m n:Int}(h:txtL m=txtL n):m=n:=by rw[←Zaa m,h,Zaa]
theorem ZaQ{n:Int}:txtL n=[]↔n=0:=⟨fun h=>by rw[←Zaa n,h,ZaD],fun h=>by rw[h];rfl⟩
theorem ZdA(a:List UInt8):(val a).natAbs<10^a.length:=by
 have h1:=ZaT (ZaU a).1
 have h2:=ZaH a
 have h3:10^(digL a).1.length≤10^a.length:=Nat.pow_le_pow_right (by omega) h2
 unfold val
 split<;>omega
theorem ZbU{m L:Nat}:m<10^L→(digs m).length≤L:=by
 induction L generalizing m with
 |zero=>intro h;simp at h;subst h;simp[digs]
 |succ L ih=>
  intro h
  by_cases h0:m=0
  ·subst h0;simp[digs]
  ·rw[ZaN m h0,List.length_append,List.length_singleton]
   have:=ih (m:=m/10) (by rw[Nat.pow_succ] at h;omega)
   omega
theorem Zab{n:Int}{L:Nat}(h:n.natAbs<10^L):(txtL n).length≤L+1:=by
 have:=ZbU h
 rw[Zbh,List.length_append]
 split<;>simp<;>omega
structure Fr where
 n:List UInt8
 d:List UInt8
deriving DecidableEq
theorem Fr.ext_{f g:Fr}(h1:f.n=g.n)(h2:f.d=g.d):f=g:=by cases f;cases g;simp_all
def Fr.zero:Fr:=⟨[],[]⟩
def Fr.dv(f:Fr):Int:=if val f.d=0 then 1 else val f.d
theorem Fr.dv_ne(f:Fr):f.dv≠0:=by
 unfold Fr.dv
 split
 ·omega
 ·assumption
def Fr.rat(f:Fr):Rat:=Rat.divInt (val f.n) f.dv
def frOf(q:Rat):Fr:=⟨txtL q.num,if q.den=1 then[] else txtL q.den⟩
theorem Zac(q:Rat):(frOf q).rat=q:=by
 unfold Fr.rat Fr.dv frOf
 simp only[Zaa]
 by_cases h:q.den=1
 ·rw[if_pos h,if_pos ZaD]
  have:=Rat.num_divInt_den q
  rw[h] at this
  exact this
 ·rw[if_neg h,Zaa,if_neg (by have:=q.den_nz;omega)]
  exact Rat.num_divInt_den q
theorem Zb9:frOf 0=Fr.zero:=rfl
theorem ZdM:Fr.zero.rat=0:=by rw[←Zb9,Zac]
theorem Zmn(f g:Fr):f.rat+g.rat=Rat.divInt (val f.n*g.dv+val g.n*f.dv) (f.dv*g.dv):=Rat.divInt_add_divInt _ _ f.dv_ne g.dv_ne
theorem ZiZ(f g:Fr):f.rat-g.rat=Rat.divInt (val f.n*g.dv-val g.n*f.dv) (f.dv*g.dv):=Rat.divInt_sub_divInt _ _ f.dv_ne g.dv_ne
theorem ZgI(f g:Fr):f.rat*g.rat=Rat.divInt (val f.n*val g.n) (f.dv*g.dv):=Rat.divInt_mul_divInt _ _
theorem Zi0(n d:Int)(hd:0<d):Int.fdiv n (Int.gcd n d)=(Rat.divInt n d).num:=by
 rw[Rat.num_divInt,Int.sign_eq_one_of_pos hd,Int.one_mul,Int.gcd_comm d n,Int.fdiv_eq_ediv_of_nonneg _ (by omega)]
theorem Zi1(n d:Int)(hd:0<d):Int.fdiv d (Int.gcd n d)=(Rat.divInt n d).den:=by
 rw[Rat.den_divInt,if_neg (by omega),Int.gcd_comm d n,Int.fdiv_eq_ediv_of_nonneg _ (by omega),Int.natCast_ediv,Int.natAbs_of_nonneg (by omega)]
theorem Zi2(n d:Int)(hd:d≠0):(0:Int)<Int.gcd n d:=by
 have:=Int.gcd_pos_of_ne_zero_right n hd
 omega
theorem Zfj(n d:Int):(Rat.divInt n d).num.natAbs≤n.natAbs:=by
 rw[Rat.num_divInt]
 have h1:(d.sign*n/(d.gcd n:Int)).natAbs≤(d.sign*n).natAbs:=Int.natAbs_ediv_le_natAbs _ _
 have h2:(d.sign*n).natAbs≤n.natAbs:=by
  rw[Int.natAbs_mul]
  have:d.sign.natAbs≤1:=by
   rcases Int.lt_trichotomy d 0 with h|h|h
   ·rw[Int.sign_eq_neg_one_of_neg h];decide
   ·rw[h];decide
   ·rw[Int.sign_eq_one_of_pos h];decide
  calc d.sign.natAbs*n.natAbs≤1*n.natAbs:=Nat.mul_le_mul_right _ this
   _=n.natAbs:=Nat.one_mul _
 omega
theorem ZcX(n d:Int)(hd:d≠0):(Rat.divInt n d).den≤d.natAbs:=by
 rw[Rat.den_divInt,if_neg hd]
 exact Nat.div_le_self _ _
def RB(L:Nat)(q:Rat):Prop:=q.num.natAbs<10^L∧q.den<10^L
theorem RB.more{L M:Nat}{q:Rat}(h:RB L q)(hLM:L≤M):RB M q:=
 ⟨Nat.lt_of_lt_of_le h.1 (Nat.pow_le_pow_right (by omega) hLM),Nat.lt_of_lt_of_le h.2 (Nat.pow_le_pow_right (by omega) hLM)⟩
theorem RB.divInt{L:Nat}{n d:Int}(hn:n.natAbs<10^L)(hd:d.natAbs<10^L)(h0:d≠0):RB L (Rat.divInt n d):=
 ⟨Nat.lt_of_le_of_lt (Zfj n d) hn,Nat.lt_of_le_of_lt (ZcX n d h0) hd⟩
def Fr.Sz(L:Nat)(f:Fr):Prop:=f.n.length≤L∧f.d.length≤L
theorem Fr.dv_lt{f:Fr}{L:Nat}(h:f.d.length≤L)(hL:1≤L):f.dv.natAbs<10^L:=by
 unfold Fr.dv
 have h1:=ZdA f.d
 have h2:10^f.d.length≤10^L:=Nat.pow_le_pow_right (by omega) h
 have h3:10^1≤10^L:=Nat.pow_le_pow_right (by omega) hL
 split<;>omega
theorem Zai{a:List UInt8}{L:Nat}(h:a.length≤L):(val a).natAbs<10^L:=
 Nat.lt_of_lt_of_le (ZdA a) (Nat.pow_le_pow_right (by omega) h)
theorem Zak{a b:Int}{L M:Nat}(ha:a.natAbs<10^L)(hb:b.natAbs<10^M):(a*b).natAbs<10^(L+M):=by
 rw[Int.natAbs_mul,Nat.pow_add]
 have h0:0<10^M:=Nat.pow_pos (by omega)
 rcases Nat.eq_zero_or_pos a.natAbs with h|h
 ·rw[h,Nat.zero_mul];exact Nat.mul_pos (Nat.pow_pos (by omega)) h0
 ·exact Nat.lt_of_lt_of_le (Nat.mul_lt_mul_of_pos_left hb h) (Nat.mul_le_mul_right _ (Nat.le_of_lt ha))
theorem Zic{a b:Int}{L:Nat}(ha:a.natAbs<10^L)(hb:b.natAbs<10^L):(a+b).natAbs<10^(L+1):=by
 rw[Nat.pow_succ];omega
theorem Zcm{a b:Int}{L:Nat}(ha:a.natAbs<10^L)(hb:b.natAbs<10^L):(a-b).natAbs<10^(L+1):=by
 rw[Nat.pow_succ];omega
theorem Zam{q:Rat}{L:Nat}(h:RB L q):(frOf q).Sz (L+1):=by
 refine⟨Zab h.1,?_⟩
 unfold frOf
 simp only
 split
 ·simp
 ·exact Zab (by simpa using h.2)
theorem Zd7{f:Fr}{L:Nat}(h:f.Sz L)(hL:1≤L):RB L f.rat:=RB.divInt (Zai h.1) (Fr.dv_lt h.2 hL) f.dv_ne
theorem Fr.Sz.more{f:Fr}{L M:Nat}(h:f.Sz L)(hLM:L≤M):f.Sz M:=⟨Nat.le_trans h.1 hLM,Nat.le_trans h.2 hLM⟩
theorem Zni{f g:Fr}{L:Nat}(hf:f.Sz L)(hg:g.Sz L)(hL:1≤L):RB (L+L+1) (f.rat-g.rat):=by
 rw[ZiZ]
 have h0:=Int.mul_ne_zero f.dv_ne g.dv_ne
 refine RB.divInt (Zcm (Zak (Zai hf.1) (Fr.dv_lt hg.2 hL)) (Zak (Zai hg.1) (Fr.dv_lt hf.2 hL))) ?_ h0
 exact Nat.lt_of_lt_of_le (Zak (Fr.dv_lt hf.2 hL) (Fr.dv_lt hg.2 hL)) (Nat.pow_le_pow_right (by omega) (by omega))
theorem Zi3{f g:Fr}{L:Nat}(hf:f.Sz L)(hg:g.Sz L)(hL:1≤L):RB (L+L) (f.rat*g.rat):=by
 rw[ZgI]
 exact RB.divInt (Zak (Zai hf.1) (Zai hg.1)) (Zak (Fr.dv_lt hf.2 hL) (Fr.dv_lt hg.2 hL)) (Int.mul_ne_zero f.dv_ne g.dv_ne)
def cmpR(x y:Rat):Int:=if x<y then-1 else if y<x then 1 else 0
def sgnI(n:Int):Int:=if n<0 then-1 else if 0<n then 1 else 0
theorem Zbk(a c:Int){b d:Int}(hb:0<b)(hd:0<d):Rat.divInt a b<Rat.divInt c d↔a*d<c*b:=by
 have hb':(0:Rat)<(b:Rat):=by exact_mod_cast hb
 have hd':(0:Rat)<(d:Rat):=by exact_mod_cast hd
 rw[Rat.divInt_eq_div,Rat.divInt_eq_div,Rat.div_lt_iff hb',Rat.div_def c,Rat.mul_assoc,Rat.mul_comm _ (b:Rat),←Rat.mul_assoc,←Rat.div_def,Rat.lt_div_iff hd']
 exact_mod_cast Iff.rfl
theorem Zd8(a c:Int){b d:Int}(hb:0<b)(hd:0<d):cmpR (Rat.divInt a b) (Rat.divInt c d)=sgnI (a*d-c*b):=by
 unfold cmpR sgnI
 simp only[Zbk a c hb hd,Zbk c a hd hb]
 have e1:a*d-c*b<0↔a*d<c*b:=by omega
 have e2:0<a*d-c*b↔c*b<a*d:=by omega
 simp only[e1,e2]
theorem ZkG(x y:Rat):cmpR x y=sgnI (x-y).num:=by
 unfold cmpR sgnI
 have e1:(x-y).num<0↔x<y:=by
  have h:=Rat.num_nonneg (q:=x-y)
  have h2:=Rat.le_iff_sub_nonneg y x
  rw[←Rat.not_le,h2,←h]
  omega
 have e2:0<(x-y).num↔y<x:=by
  have h:=Rat.num_nonneg (q:=y-x)
  have h2:=Rat.le_iff_sub_nonneg x y
  rw[←Rat.not_le,h2,←h,←Rat.neg_sub x y,Rat.neg_num]
  omega
 simp only[e1,e2]
def Fr.ok(f:Fr):Prop:=f=frOf f.rat
instance (f:Fr):Decidable f.ok:=inferInstanceAs (Decidable (f=frOf f.rat))
end
end Go.Proofs.YtpnncoinlopndaaGreatDoor
