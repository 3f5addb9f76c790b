/- Rq8, Rq10a, X11, RqC. -/
import Derived.Test.YtkddgeclncafoaaGreatDoorQGEn11
import Derived.Test.YtkddgeclncafoaaGreatDoorQGEn17
import Derived.Test.YtkddgeclncafoaaGreatDoorQGEn29
import Derived.Deep.DrawnRows
set_option maxRecDepth 100000
set_option maxHeartbeats 8000000
namespace Go.Proofs.YtkddgeclncafoaaGreatDoor
open Go.Lib renaming hid→jq
open Go.RowKit Go.Shelf
section
attribute [local go_sem ↓] Go.wp_at_zero Go.wp_at_succ
theorem Zgb(l:Lot)(w:World)(hl:l.Sz 50000):Calls Tryz.prog 95 #[Zat l] w (Qn (VD l) w):=by
 have HPO:=jq (show Qn (VD l) w=fun e w'=>e=.returned (.int .i64 (VD l))/\Below w.1.size w w' from rfl)
 have HSC:=jq (show VD l=if !(idB l.id&&Qp l.inst) then 23 else if !(VL l.acq&&VL l.opn) then 13 else if l.opn<l.acq then 8
  else if !(QH l.q&&QH l.c&&QH l.u) then 1 else if(decide (val l.q<=0)=true\/decide (val l.c<0)=true\/(l.u≠[]/\l.u≠l.q)) then 2 else 0 by unfold VD;simp only[decide_eq_true_eq])
 generalize Qn (VD l) w=post at*;generalize VD l=res at*;have HB:=jq ((Below.refl w.1.size w).alloc (Nat.le_refl _) (.cells #[.string ⟨l.id.toArray⟩,.string ⟨l.inst.toArray⟩,.int .i64 l.acq,.int .i64 l.opn,.string ⟨l.q.toArray⟩,.string ⟨l.c.toArray⟩,.string ⟨l.u.toArray⟩] 50));have hbk:BlkB (w.alloc (.cells #[.string ⟨l.id.toArray⟩,.string ⟨l.inst.toArray⟩,.int .i64 l.acq,.int .i64 l.opn,.string ⟨l.q.toArray⟩,.string ⟨l.c.toArray⟩,.string ⟨l.u.toArray⟩] 50)) w.1.size #[.string ⟨l.id.toArray⟩,.string ⟨l.inst.toArray⟩,.int .i64 l.acq,.int .i64 l.opn,.string ⟨l.q.toArray⟩,.string ⟨l.c.toArray⟩,.string ⟨l.u.toArray⟩] 50:=heap_alloc_new w _;have c0:=hbk.cell 0 rfl;have c1:=hbk.cell 1 rfl;have c2:=hbk.cell 2 rfl;have c3:=hbk.cell 3 rfl;have c4:=hbk.cell 4 rfl;have c5:=hbk.cell 5 rfl;have c6:=hbk.cell 6 rfl;have HID:=jq (fun W=>Zld l.id W (by have:=hl.id;omega));have HNM:=jq (fun W=>Yw l.inst W (by have:=hl.inst;unfold maxLen;omega));have HAQ:=jq (fun W=>Zd5 l.acq W hl.a1 hl.a2);have HOP:=jq (fun W=>Zd5 l.opn W hl.o1 hl.o2);have HCQ:=jq (fun W=>XV l.q W (by have:=hl.q;omega));have HCC:=jq (fun W=>XV l.c W (by have:=hl.c;omega));have HCU:=jq (fun W=>XV l.u W (by have:=hl.u;omega));have HSQ:=jq (fun W=>Zd1 l.q W (by have:=hl.q;omega));have HSG:=jq (fun W=>Zd1 l.c W (by have:=hl.c;omega));have E1:=jq (Zih (val l.q));have E2:=jq (Zcj (val l.c));clear hbk hl;generalize Qt (val l.q)=z1 at *; generalize Qt (val l.c)=z2 at*;generalize decide (val l.q<=0)=g1 at *; generalize decide (val l.c<0)=g2 at*;generalize QH l.q=k1 at *; generalize QH l.c=k2 at *; generalize QH l.u=k3 at*;generalize VL l.acq=d1 at *; generalize VL l.opn=d2 at*;generalize idB l.id=n1 at *; generalize Qp l.inst=n2 at*;unfold Zat;unfold S at*
 go_enter Tryz.func95,Tryz.ntmps95
 go_wp2_with fail
 generalize (w.alloc _)=W0 at*;refine(HID.out _).mono ?_;rintro e w1 ⟨rfl,rfl⟩
 cases n1 with
 |false=>
  go_wp2_with fail
  first|go_ret|skip
  rw[HPO.out];exact⟨Qb (HSC.out.trans (by simp)).symm,HB.out⟩
 |true=>
 go_wp2_with fail
 refine(HNM.out _).mono ?_;rintro e w1 ⟨rfl,rfl⟩
 cases n2 with
 |false=>
  go_wp2_with fail
  first|go_ret|skip
  rw[HPO.out];exact⟨Qb (HSC.out.trans (by simp)).symm,HB.out⟩
 |true=>
 rw[if_neg (by simp)] at HSC;go_wp2_with fail
 refine(HAQ.out _).mono ?_;rintro e w1 ⟨rfl,rfl⟩
 cases d1 with
 |false=>
  go_wp2_with fail
  first|go_ret|skip
  rw[HPO.out];exact⟨Qb (HSC.out.trans (by simp)).symm,HB.out⟩
 |true=>
 go_wp2_with fail
 refine(HOP.out _).mono ?_;rintro e w1 ⟨rfl,rfl⟩
 cases d2 with
 |false=>
  go_wp2_with fail
  first|go_ret|skip
  rw[HPO.out];exact⟨Qb (HSC.out.trans (by simp)).symm,HB.out⟩
 |true=>
 rw[if_neg (by simp)] at HSC
 by_cases h3:l.opn<l.acq
 ·rw[if_pos h3] at HSC;go_wp2_with fail
  first|go_ret|skip
  rw[HPO.out];exact⟨Qb HSC.out.symm,HB.out⟩
 rw[if_neg h3] at HSC;go_wp2_with fail
 refine(HCQ.out _).mono ?_;rintro e w1 ⟨rfl,rfl⟩
 cases k1 with
 |false=>
  go_wp2_with fail
  first|go_ret|skip
  rw[HPO.out];exact⟨Qb (HSC.out.trans (by simp)).symm,HB.out⟩
 |true=>
 go_wp2_with fail
 refine(HCC.out _).mono ?_;rintro e w1 ⟨rfl,rfl⟩
 cases k2 with
 |false=>
  go_wp2_with fail
  first|go_ret|skip
  rw[HPO.out];exact⟨Qb (HSC.out.trans (by simp)).symm,HB.out⟩
 |true=>
 go_wp2_with fail
 refine(HCU.out _).mono ?_;rintro e w1 ⟨rfl,rfl⟩
 cases k3 with
 |false=>
  go_wp2_with fail
  first|go_ret|skip
  rw[HPO.out];exact⟨Qb (HSC.out.trans (by simp)).symm,HB.out⟩
 |true=>
 rw[if_neg (by simp)] at HSC;go_wp2_with fail
 refine(HSQ.out _).mono ?_;rintro e w1 ⟨rfl,rfl⟩
 by_cases hz1:z1<=0
 ·rw[decide_eq_true hz1] at E1;rw[if_pos (.inl E1.out.symm)] at HSC;go_wp2_with fail
  first|go_ret|skip
  rw[HPO.out];exact⟨Qb HSC.out.symm,HB.out⟩
 rw[decide_eq_false hz1] at E1;go_wp2_with fail
 refine(HSG.out _).mono ?_;rintro e w1 ⟨rfl,rfl⟩
 by_cases hz2:z2<0
 ·rw[decide_eq_true hz2] at E2;rw[if_pos (.inr (.inl E2.out.symm))] at HSC;go_wp2_with fail
  first|go_ret|skip
  rw[HPO.out];exact⟨Qb HSC.out.symm,HB.out⟩
 rw[decide_eq_false hz2] at E2
 by_cases hu:l.u=[]
 ·rw[if_neg (by rw[<-E1.out,<-E2.out];simp[hu])] at HSC;have q1:(l.u==[])=true:=by simp[hu]
  have q2:(l.u !=[])=false:=by simp[hu]
  have q3:l.u.isEmpty=true:=by simp[hu]
  clear hu;go_wp2_with fail
  first|go_ret|skip
  rw[HPO.out];exact⟨Qb HSC.out.symm,HB.out⟩
 ·have q1:(l.u==[])=false:=by simp[hu]
  have q2:(l.u !=[])=true:=by simp[hu]
  have q3:l.u.isEmpty=false:=by simp[hu]
  by_cases hq:l.u=l.q
  ·rw[if_neg (by rw[<-E1.out,<-E2.out];simp[hq])] at HSC;have r1:(l.u==l.q)=true:=by simp[hq]
   have r2:(l.u !=l.q)=false:=by simp[hq]
   clear hu hq;go_wp2_with fail
   first|go_ret|skip
   rw[HPO.out];exact⟨Qb HSC.out.symm,HB.out⟩
  ·rw[if_pos (.inr (.inr ⟨hu,hq⟩))] at HSC;have r1:(l.u==l.q)=false:=by simp[hq]
   have r2:(l.u !=l.q)=true:=by simp[hq]
   clear hu hq;go_wp2_with fail
   first|go_ret|skip
   rw[HPO.out];exact⟨Qb HSC.out.symm,HB.out⟩
theorem Zht(A:Option Addr)(n c:Nat)(ls:List Lot)(id:List UInt8)(w:World)(hs:YI w w.1.size A n ls)(hn:n<=1000000000):
 Calls Tryz.prog 96 #[.slice A n c,S id] w fun e w'=>e=.returned (.tuple #[.int .i64 (max (Zjq ls id) 0),.bool (decide (id∈ls.map (·.id)))])/\Below w.1.size w w':=by
 rw[<-Zna];have HFI:=jq (show Zjq ls id=Zb6 (fun x:Lot=>x.id==id) ls from rfl);have HR:=jq hs;generalize Zjq ls id=z at*;clear hs;unfold S;go_enter Tryz.func96,Tryz.ntmps96
 go_wp2_with fail
 go_loopw [6] (fun i wr=>∃j:Nat,j<=n/\i=.int .i64 j/\Hid ((ls.take j).any (fun x:Lot=>x.id==id)=false)/\Below w.1.size w wr) (fun i _=>n-(intOf i).toNat)
 case atStart=>exact⟨0,Nat.zero_le _,rfl,by show _=_;simp,Below.refl _ _⟩
 case round=>
  obtain⟨j,hj,rfl,HN,hb⟩:=hrel
  by_cases hlt:j<n
  ·obtain⟨b,off,r,rfl,hbl,hxj,d0,d1,d2,d3,d4,d5,d6⟩:=(HR.out.below hb).lot hlt
   have HX:=jq hxj;clear hxj d1 d2 d3 d4 d5 d6
   cases hq:(r.id==id) with
   |true=>
    have HQ:=jq hq;have HZ:=jq (show z=(j:Int) by rw[HFI.out];exact Zco HX.out HQ.out HN.out);have hz0:0<=z:=by have:=HZ.out;omega
    go_wp2_with fail
    first|go_ret2|skip
    rw[HZ.out];refine⟨?_,hb⟩;rw[show max (j:Int) 0=j by omega,decide_eq_true (show(0:Int)<=j by omega)];rfl
   |false=>
    have HQ:=jq hq;go_wp2_with fail
    go_roundw
    case rel=>exact⟨j+1,by omega,by go_num,VR HX.out HN.out HQ.out,hb⟩
    case measure=>simp[intOf];omega
  ·have HZ:=jq (show z= -1 by rw[HFI.out];exact Zah (by have:=HN.out;rwa [List.take_of_length_le (by have:=HR.out.1;omega)] at this));go_wp2_with fail
   first|go_ret2|skip
   rw[HZ.out];exact⟨rfl,hb⟩
theorem Zc5(A:Option Addr)(n c:Nat)(ls:List Lot)(w:World)(hs:YI w w.1.size A n ls)(hl:∀x∈ls,x.Sz 50000)(hn:n<=1000000000)(hcap:n<=c):Calls Tryz.prog 53 #[.slice A n c] w (Qn (Vm ls) w):=by
 have HPO:=jq (show Qn (Vm ls) w=fun e w'=>e=.returned (.int .i64 (Vm ls))/\Below w.1.size w w' from rfl);have HSC:=jq (show Vm ls=if 1000<ls.length then 4 else Vl [] ls from rfl);generalize Qn (Vm ls) w=post at*;generalize Vm ls=res at*;have HS:=jq hs;have hnw:=hs.1;have H0:=jq (Below.refl w.1.size w);have HCK:=jq (fun x hx W=>Zgb x W (hl x hx));rw[<-hnw] at HSC;clear hs hl
 by_cases h1:1000<n
 ·rw[if_pos h1] at HSC;clear hnw hn;go_enter Tryz.func53,Tryz.ntmps53
  go_wp2_with fail
  first|go_ret|skip
  rw[HPO.out,HSC.out];exact⟨rfl,H0.out⟩
 rw[if_neg h1] at HSC;have hn1:¬1000<n:=h1;have HNW:=jq hnw;clear hnw h1;go_enter Tryz.func53,Tryz.ntmps53
 go_wp2_with fail
 go_loopw [3] (fun i wr=>∃(k:Nat) (seen:List (List UInt8)),k<=n/\i=.int .i64 k/\Hid (Below w.1.size w wr)/\Hid (∀y,y∈seen↔y∈(ls.take k).map (·.id))/\Hid (Vl seen (ls.drop k)=res)) (fun i _=>n-(intOf i).toNat)
 case atStart=>exact⟨0,[],Nat.zero_le _,rfl,H0,by show ∀_,_;simp,by show _=_;rw[List.drop_zero];exact HSC.out.symm⟩
 case round=>
  clear H0;obtain⟨k,seen,hk,rfl,H,HSE,HQ⟩:=hrel
  by_cases hlt:k<n
  ·obtain⟨b,off,x,rfl,hb,hx,d0,d1,d2,d3,d4,d5,d6⟩:=(HS.out.below H.out).lot hlt
   have HX:=jq hx;clear hx;have HC:=jq (HCK.out x (List.mem_of_getElem? HX.out) wr)
   have HDR:=jq (show Vl seen (x::ls.drop (k+1))=res by
    have hx:=HX.out;obtain⟨hk,rfl⟩:=List.getElem?_eq_some_iff.1 hx
    rw[<-List.drop_eq_getElem_cons hk];exact HQ.out)
   clear HQ;have HLC:=jq (show Vl seen (x::ls.drop (k+1))=if VD x≠0 then VD x else if x.id∈seen then 5 else Vl (x.id::seen) (ls.drop (k+1)) from rfl);rw[HDR.out] at HLC;clear HDR;have HFD:=jq (fun W (hW:Below w.1.size w W)=>Zht (some ⟨b,off,none⟩) k c (ls.take k) x.id W (((HS.out.below hW).more hW.size).take hk) (by omega))
   have HSN:=jq (show ∀y,y∈x.id::seen↔y∈(ls.take (k+1)).map (·.id) by
    intro y;obtain⟨h1,h2⟩:=List.getElem?_eq_some_iff.1 HX.out
    rw[List.take_succ_eq_append_getElem h1,h2,List.map_append,List.mem_append,List.mem_cons,HSE.out y];simp only[List.map_cons,List.map_nil,List.mem_singleton];exact or_comm)
   have HDE:=jq (show decide (x.id∈(ls.take k).map (·.id))=decide (x.id∈seen) by rw[Bool.eq_iff_iff,decide_eq_true_eq,decide_eq_true_eq];exact(HSE.out x.id).symm);rw[HDE.out] at HFD;clear HSE HDE;generalize max (Zjq (ls.take k) x.id) 0=fi at*;unfold Zat Qn S at HC;unfold S at HFD;generalize VD x=z at*;go_wp2_with fail
   refine HC.out.mono ?_;rintro e w1 ⟨rfl,hb1⟩;replace H:=jq (H.out.trans (hb1.mono H.out.size))
   have e0:w1.cell? ⟨b,off+k*7,none⟩=some (.string ⟨x.id.toArray⟩):=by
    obtain⟨b2,off2,x2,hA,_,hx2,e0,_⟩:=(HS.out.below H.out).lot hlt
    injection hA with hA;injection hA with h1 h2;subst h1;subst h2
    rw[HX.out] at hx2;injection hx2 with hx2;subst hx2;exact e0
   clear hb1 d0 d1 d2 d3 d4 d5 d6
   by_cases hz:z=0
   ·have hz0:(z !=0)=false:=by simp[hz]
    rw[if_neg (by simpa using hz)] at HLC;clear hz;have i1:(0:Int)<=(k:Int):=by omega
    have i2:(k:Int)<(n:Int):=by omega
    have i3:(k:Int)<=(c:Int):=by omega
    go_upto_region 9 with (fail)
    cases hin:decide (x.id∈seen) with
    |true=>
     rw[hin] at HFD;rw[if_pos (of_decide_eq_true hin)] at HLC;clear hin
     go_region_held3 (fun w'=>w'.cell? ⟨b,off+k*7,none⟩=some (.string ⟨x.id.toArray⟩)) (go_keep)
      ((go_at_call 96;refine(HFD.out _ H.out.drew).mono ?_;rintro e w2 ⟨rfl,hb2⟩;have e2:w2.cell? ⟨b,off+k*7,none⟩=some (.string ⟨x.id.toArray⟩):=(hb2.cell (p:=⟨b,off+k*7,none⟩) (World.block_lt_of_cell? _ _ e0)).trans e0;have H9:=jq (H.out.drew.trans (hb2.mono H.out.drew.size))))
     all_goals
      go_wp2_with fail
      first|go_ret|skip
      rw[HPO.out,HLC.out];exact⟨rfl,H9.out⟩
    |false=>
     rw[hin] at HFD;rw[if_neg (of_decide_eq_false hin)] at HLC;clear hin
     go_region_held3 (fun w'=>w'.cell? ⟨b,off+k*7,none⟩=some (.string ⟨x.id.toArray⟩)) (go_keep)
      ((go_at_call 96;refine(HFD.out _ H.out.drew).mono ?_;rintro e w2 ⟨rfl,hb2⟩;have e2:w2.cell? ⟨b,off+k*7,none⟩=some (.string ⟨x.id.toArray⟩):=(hb2.cell (p:=⟨b,off+k*7,none⟩) (World.block_lt_of_cell? _ _ e0)).trans e0;have H9:=jq (H.out.drew.trans (hb2.mono H.out.drew.size))))
     all_goals
      go_wp2_with fail
      go_roundw
      case rel=>exact⟨k+1,x.id::seen,by omega,by go_num,H9,HSN.out,HLC.out.symm⟩
      case measure=>simp[intOf];omega
   ·have hz0:(z !=0)=true:=by simp[hz]
    rw[if_pos hz] at HLC;clear hz;go_wp2_with fail
    first|go_ret|skip
    rw[HPO.out,HLC.out];exact⟨rfl,H.out⟩
  ·have HE:=jq (show res=0 by
    have:=HQ.out
    rw[List.drop_eq_nil_of_le (by have:=HNW.out;omega)] at this;exact this.symm)
   go_wp2_with fail
   first|go_ret|skip
   rw[HPO.out,HE.out];exact⟨rfl,H.out⟩
end
section
theorem Zbk{ls:List Lot}{k:Nat}{y:Lot}(i:List UInt8)(h:ls[k]?=some y):Qf (ls.take (k+1)) i=Qf (ls.take k) i++if(y.inst==i)=true then[y] else[]:=by
 obtain⟨hk,rfl⟩:=List.getElem?_eq_some_iff.1 h
 unfold Qf;rw[List.take_succ_eq_append_getElem hk,List.filter_append]
 congr 1
 cases h:(ls[k].inst==i)<;>simp[h]
theorem Zl1(A:Option Addr)(n c:Nat)(ls:List Lot)(i:List UInt8)(w:World)(hs:YI w w.1.size A n ls)(hn:n<=1000000):
 Calls Tryz.prog 28 #[.slice A n c,S i] w (RetOwn L7 7 50 w.1.size w (Qf ls i)):=by
 have HPO:=jq (show RetOwn L7 7 50 w.1.size w (Qf ls i)=fun e w'=>∃A c,e=.returned (.slice A (Qf ls i).length c)/\Own L7 7 50 w' w.1.size (.slice A (Qf ls i).length c) (Qf ls i)/\Below w.1.size w w' from rfl);generalize RetOwn L7 7 50 w.1.size w (Qf ls i)=post at*;have HS:=jq hs;have HNN:=jq hs.1;have H0:=jq (Own.lit (enc:=L7) (k:=7) (base:=w.1.size) w #[] 50 [] rfl Zbt (Nat.le_refl _) (by simp));have HB0:=jq ((Below.refl w.1.size w).alloc (Nat.le_refl _) (.cells #[] 50));clear hs;unfold S;go_enter Tryz.func28,Tryz.ntmps28
 go_wp2_with fail
 generalize w.alloc _=W0 at*
 go_loopw [5,6] (fun s j wr=>∃(k:Nat) (A1:Option Addr) (c1:Nat),k<=n/\j=.int .i64 k/\s=.slice A1 (Qf (ls.take k) i).length c1/\Hid (Own L7 7 50 wr w.1.size (.slice A1 (Qf (ls.take k) i).length c1) (Qf (ls.take k) i))/\Hid (Below w.1.size w wr)) (fun _ j _=>n-(intOf j).toNat)
 case atStart=>exact⟨0,_,0,Nat.zero_le _,rfl,rfl,H0,HB0⟩
 case round=>
  clear H0 HB0;obtain⟨k,A1,c1,hk,rfl,rfl,HO,HB⟩:=hrel
  by_cases hlt:k<n
  ·obtain⟨b,off,y,rfl,hb,hy,d0,d1,d2,d3,d4,d5,d6⟩:=(HS.out.below HB.out).lot hlt
   have HTK:=jq (Zbk i hy);have HLL:=jq (show(Qf (ls.take k) i).length<=k from Nat.le_trans (List.length_filter_le _ _) (by rw[List.length_take];omega));generalize Qf (ls.take k) i=xs at*;clear hy
   cases hi:(y.inst==i) with
   |false=>
    rw[hi,if_neg (by decide),List.append_nil] at HTK;go_wp2_with fail
    go_roundw
    case rel=>exact⟨k+1,A1,c1,by omega,by go_num,by rw[HTK.out],(show Own _ _ _ _ _ _ _ by rw[HTK.out];exact HO.out),HB.out⟩
    case measure=>simp[intOf];omega
   |true=>
    rw[hi,if_pos rfl] at HTK;have HA2:=jq (HB.out.alloc HB.out.size (.cells (ZaD y) 50));have HO5:=jq (HO.out.alloc (.cells (ZaD y) 50));have HL1:=jq (Zl0 (show BlkB (wr.alloc (.cells (ZaD y) 50)) wr.1.size (ZaD y) 50 from heap_alloc_new wr _));have e7:ZaD y=#[.string ⟨y.id.toArray⟩,.string ⟨y.inst.toArray⟩,.int .i64 y.acq,.int .i64 y.opn,.string ⟨y.q.toArray⟩,.string ⟨y.c.toArray⟩,.string ⟨y.u.toArray⟩]:=rfl;rw[e7] at HA2 HO5 HL1;clear e7
    go_wp2_with (at_builtin;refine Xa _ rfl (.tmp 21) (.tmp 26) _ rfl Zgn Zbt ZhV (base:=w.1.size) (.slice A1 _ c1) xs rfl HO5.out _ _ 1 1 [y] rfl HL1.out (by have:=HLL.out;omega) HA2.out.size ?_
                 intro A4 c4 w6 ho4 hg4 _)
    go_roundw
    case rel=>
     exact⟨k+1,A4,c4,by omega,by go_num,by rw[HTK.out,List.length_append];rfl,(show Own _ _ _ _ _ _ _ by rw[HTK.out,List.length_append];exact ho4),Qy HA2.out hg4 HA2.out.size (fun g hg=>by
      obtain⟨A',c',hv,_,_,_,h4⟩:=HO5.out.form
      exact(h4 g hg).2.1)⟩
    case measure=>simp[intOf];omega
  ·obtain rfl:k=n:=by omega
   have HE:=jq (show ls.take k=ls by rw[List.take_of_length_le (by have:=HNN.out;omega)]);rw[HE.out] at HO;rw[HE.out];go_wp2_with fail
   first|go_ret|skip
   rw[HPO.out];exact⟨A1,c1,rfl,HO.out,HB.out⟩
end
section
attribute [local go_sem ↓] Go.wp_at_zero Go.wp_at_succ
theorem ZhD(A:Option Addr)(n c:Nat)(ls:List Lot)(i:List UInt8)(w:World)(hs:YI w w.1.size A n ls)(hn:n<=9999)(hq:∀x∈ls,x.q.length<=50000)(hc:∀x∈ls,x.c.length<=50000):
 Calls Tryz.prog 20 #[.slice A n c,S i] w (Vc (Qa (QZ ls i (fun z=>val z.q))) (Qa (QZ ls i (fun z=>val z.c))) w):=by
 have HPO:=jq (show Vc (Qa (QZ ls i (fun z=>val z.q))) (Qa (QZ ls i (fun z=>val z.c))) w=fun e w'=>e=.returned (.tuple #[.string ⟨(Qa (XA (·.q) (Qf ls i))).toArray⟩,.string ⟨(Qa (XA (·.c) (Qf ls i))).toArray⟩])/\Below w.1.size w w' from rfl);generalize Vc (Qa (QZ ls i (fun z=>val z.q))) (Qa (QZ ls i (fun z=>val z.c))) w=post at*;have HS:=jq hs;have HNN:=jq hs.1;have HL:=jq (show ∀k,(Qf (ls.take k) i).length<=9999 from fun k=>Nat.le_trans (List.length_filter_le _ _) (by rw[List.length_take];have:=hs.1;omega));have HQ:=jq (show ∀k,∀x∈Qf (ls.take k) i,x.q.length<=50000 from fun k x hx=>hq x (List.mem_of_mem_take (List.mem_filter.1 hx).1));have HC:=jq (show ∀k,∀x∈Qf (ls.take k) i,x.c.length<=50000 from fun k x hx=>hc x (List.mem_of_mem_take (List.mem_filter.1 hx).1));have HQ1:=jq hq;have HC1:=jq hc;clear hs hq hc;unfold S;go_enter Tryz.func20,Tryz.ntmps20
 go_wp2_with fail
 have H0:=jq (Below.refl w.1.size w)
 go_loopw [6,7,8] (fun a b j wr=>∃k:Nat,k<=n/\j=.int .i64 k/\a=.string ⟨(Qa (XA (·.q) (Qf (ls.take k) i))).toArray⟩/\b=.string ⟨(Qa (XA (·.c) (Qf (ls.take k) i))).toArray⟩/\Hid (Below w.1.size w wr)) (fun _ _ j _=>n-(intOf j).toNat)
 case atStart=>exact⟨0,Nat.zero_le _,rfl,rfl,rfl,H0⟩
 case round=>
  clear H0;obtain⟨k,hk,rfl,rfl,rfl,HB⟩:=hrel
  by_cases hlt:k<n
  ·obtain⟨b,off,y,rfl,hb,hy,d0,d1,d2,d3,d4,d5,d6⟩:=(HS.out.below HB.out).lot hlt
   have HTK:=jq (Zbk i hy);have hym:=List.mem_of_getElem? hy;clear hy
   cases hi:(y.inst==i) with
   |false=>
    rw[hi,if_neg (by decide),List.append_nil] at HTK;go_wp2_with fail
    go_roundw
    case rel=>exact⟨k+1,by omega,by go_num,by rw[HTK.out],by rw[HTK.out],HB.out⟩
    case measure=>simp[intOf];omega
   |true=>
    rw[hi,if_pos rfl] at HTK;have HAQ:=jq (fun W=>Yi (Qa (XA (·.q) (Qf (ls.take k) i))) y.q W (by have:=Vz (g:=(·.q)) (HQ.out k) (HL.out k);omega) (by have:=HQ1.out y hym;omega));have HAC:=jq (fun W=>Yi (Qa (XA (·.c) (Qf (ls.take k) i))) y.c W (by have:=Vz (g:=(·.c)) (HC.out k) (HL.out k);omega) (by have:=HC1.out y hym;omega));have e1:XA (·.q) (Qf (ls.take (k+1)) i)=XA (·.q) (Qf (ls.take k) i)+val y.q:=by rw[HTK.out];exact Zas _ _ _
    have e2:XA (·.c) (Qf (ls.take (k+1)) i)=XA (·.c) (Qf (ls.take k) i)+val y.c:=by rw[HTK.out];exact Zas _ _ _
    rw[Qc,<-e1] at HAQ;rw[Qc,<-e2] at HAC;clear e1 e2 HTK hym;generalize hq1:Qa (XA (·.q) (Qf (ls.take (k+1)) i))=tq1 at*;generalize hc1:Qa (XA (·.c) (Qf (ls.take (k+1)) i))=tc1 at*;have HQE:=jq hq1;have HCE:=jq hc1;clear hq1 hc1;generalize Qa (XA (·.q) (Qf (ls.take k) i))=tq at*;generalize Qa (XA (·.c) (Qf (ls.take k) i))=tc at*;have hS:=jq (fun X (h:Bz wr X)=>(show X.cell? ⟨b,off+k*7+4,none⟩=some (.string ⟨y.q.toArray⟩)/\X.cell? ⟨b,off+k*7+5,none⟩=some (.string ⟨y.c.toArray⟩) from⟨by rw[<-d4];exact Below.cell h (Nat.lt_of_lt_of_le hb HB.out.size),by rw[<-d5];exact Below.cell h (Nat.lt_of_lt_of_le hb HB.out.size)⟩));unfold Qo S at HAQ HAC;go_upto_region 6 with (fail)
    go_region_held3 (fun X=>X.cell? ⟨b,off+k*7+4,none⟩=some (.string ⟨y.q.toArray⟩)/\X.cell? ⟨b,off+k*7+5,none⟩=some (.string ⟨y.c.toArray⟩))
     (first|(exact hS.out _ (by repeat' (first|assumption|exact Bz.refl _|refine Bz.drew ?_|refine Bz.alloc ?_ _|refine Bz.set ?_ (by first|assumption|exact Nat.le_refl _|exact Bz.size (by assumption)) _ _)))|go_keep)
     (first
       |(go_at_call_of 29 (Value.string ⟨tq.toArray⟩);refine(HAQ.out _).mono ?_;rintro e v1 ⟨rfl,hb1⟩;have hz1:Bz wr v1:=Bz.call (by repeat' (first|assumption|exact Bz.refl _|refine Bz.drew ?_|refine Bz.alloc ?_ _|refine Bz.set ?_ (by first|assumption|exact Nat.le_refl _|exact Bz.size (by assumption)) _ _)) hb1)
       |(go_at_call_of 29 (Value.string ⟨tc.toArray⟩);refine(HAC.out _).mono ?_;rintro e v2 ⟨rfl,hb2⟩;have hz2:Bz wr v2:=Bz.call (by repeat' (first|assumption|exact Bz.refl _|refine Bz.drew ?_|refine Bz.alloc ?_ _|refine Bz.set ?_ (by first|assumption|exact Nat.le_refl _|exact Bz.size (by assumption)) _ _)) hb2))
    all_goals
     go_wp2_with fail
     go_roundw
     case rel=>exact⟨k+1,by omega,by go_num,by rw[HQE.out],by rw[HCE.out],HB.out.trans (Below.mono (by first|exact hz2|exact hz1) HB.out.size)⟩
     case measure=>simp[intOf];omega
  ·obtain rfl:k=n:=by omega
   have HE:=jq (show ls.take k=ls by rw[List.take_of_length_le (by have:=HNN.out;omega)]);rw[HE.out];go_wp2_with fail
   first|go_ret|skip
   rw[HPO.out];exact⟨rfl,HB.out⟩
end
section
attribute [local go_sem ↓] Go.wp_at_zero Go.wp_at_succ
def Zfa(ls:List Lot)(n:Nat)(w:World)(e:Ending)(w':World):Prop:=
 ∃A1 c1 A2 c2,e=.returned (.tuple #[.slice A1 n c1,.slice A2 n c2])/\Own S1 1 24 w' w.1.size (.slice A1 n c1) (ls.map (·.q))/\Own S1 1 24 w' w.1.size (.slice A2 n c2) (ls.map (·.c))/\Below w.1.size w w'
theorem ZdA(A:Option Addr)(n c:Nat)(ls:List Lot)(w:World)(hs:YI w w.1.size A n ls)(hn:n<=1000):
 Calls Tryz.prog 27 #[.slice A n c] w (Zfa ls n w):=by
 have HPO:=jq (show Zfa ls n w=fun e w'=>∃A1 c1 A2 c2,e=.returned (.tuple #[.slice A1 n c1,.slice A2 n c2])/\Own S1 1 24 w' w.1.size (.slice A1 n c1) (ls.map (·.q))/\Own S1 1 24 w' w.1.size (.slice A2 n c2) (ls.map (·.c))/\Below w.1.size w w' from rfl);generalize Zfa ls n w=post at*;have HS:=jq hs;have HNN:=jq hs.1;clear hs;go_enter Tryz.func27,Tryz.ntmps27
 go_wp2_with fail
 go_loopw [4,5,6] (fun s t j wr=>∃(k:Nat) (A1:Option Addr) (c1:Nat) (A2:Option Addr) (c2:Nat),k<=n/\j=.int .i64 k/\s=.slice A1 ((ls.take k).map (·.q)).length c1/\t=.slice A2 ((ls.take k).map (·.c)).length c2/\Hid (TwoO w.1.size w wr A1 ((ls.take k).map (·.q)).length c1 ((ls.take k).map (·.q)) A2 ((ls.take k).map (·.c)).length c2 ((ls.take k).map (·.c)))) (fun _ _ j _=>n-(intOf j).toNat)
 case atStart=>exact⟨0,none,0,none,0,Nat.zero_le _,rfl,rfl,rfl,TwoO.nil (Nat.le_refl _) (Below.refl _ _)⟩
 case round=>
  obtain⟨k,A1,c1,A2,c2,hk,rfl,rfl,rfl,HT⟩:=hrel
  by_cases hlt:k<n
  ·obtain⟨b,off,y,hAe,hb,hy,d0,d1,d2,d3,d4,d5,d6⟩:=(HS.out.below HT.out.bl).lot hlt
   have HTQ:=jq (show(ls.take (k+1)).map (·.q)=(ls.take k).map (·.q)++[y.q] by obtain⟨h1,h2⟩:=List.getElem?_eq_some_iff.1 hy;rw[List.take_succ_eq_append_getElem h1,h2,List.map_append];rfl);have HTC:=jq (show(ls.take (k+1)).map (·.c)=(ls.take k).map (·.c)++[y.c] by obtain⟨h1,h2⟩:=List.getElem?_eq_some_iff.1 hy;rw[List.take_succ_eq_append_getElem h1,h2,List.map_append];rfl);subst hAe
   have HL45:=jq (show ∀X,Below w.1.size w X->X.cell? ⟨b,off+k*7+4,none⟩=some (.string ⟨y.q.toArray⟩)/\X.cell? ⟨b,off+k*7+5,none⟩=some (.string ⟨y.c.toArray⟩) from fun X h=>by
    obtain⟨b2,off2,y2,hA2,_,hy2,_,_,_,_,e4,e5,_⟩:=(HS.out.below h).lot hlt
    injection hA2 with hA2;injection hA2 with h1 h2;subst h1;subst h2
    rw[hy] at hy2;injection hy2 with hy2;subst hy2;exact⟨e4,e5⟩)
   clear hy d0 d1 d2 d3 d4 d5 d6;generalize hqk:(ls.take k).map (·.q)=qk at*;generalize hck:(ls.take k).map (·.c)=ck at*
   have HLQ:=jq (show qk.length=k/\ck.length=k/\k<1000 by
    have h1:(ls.take k).length=k:=by rw[List.length_take,<-HNN.out];omega
    rw[<-hqk,<-hck,List.length_map,List.length_map];omega)
   clear hqk hck;have HO1:=jq (show ∀g,(Value.slice A1 qk.length c1).ownBlock=some g->g<wr.1.size from fun g hg=>(ZbP HT.out.o1 hg).2);have HO2:=jq (show ∀g,(Value.slice A2 ck.length c2).ownBlock=some g->g<wr.1.size from fun g hg=>(ZbP HT.out.o2 hg).2);have i1:(0:Int)<=(k:Int):=by omega
   have i2:(k:Int)<(n:Int):=by omega
   go_upto_region 5 with (fail)
   have T0:=HT.out;clear hb
   go_region_held3 (fun X=>X.cell? ⟨b,off+k*7+4,none⟩=some (.string ⟨y.q.toArray⟩)/\X.cell? ⟨b,off+k*7+5,none⟩=some (.string ⟨y.c.toArray⟩))
    (first
      |(refine HL45.out _ (TwoO.bl (base:=w.1.size) (W1:=w) (A1:=A1) (n1:=qk.length) (c1:=c1) (xs:=qk) (A2:=A2) (n2:=ck.length) (c2:=c2) (ys:=ck) ?_);((repeat (first|with_reducible assumption|with_reducible refine TwoO.drew' ?_|with_reducible refine TwoO.alloc ?_ _));done))
      |(refine HL45.out _ (TwoO.bl (base:=w.1.size) (W1:=w) (A1:=A1) (n1:=qk.length) (c1:=c1) (xs:=qk) (A2:=B2) (n2:=ck.length+1) (c2:=e2) (ys:=ck++[y.c]) ?_);((repeat (first|with_reducible assumption|with_reducible refine TwoO.drew' ?_|with_reducible refine TwoO.alloc ?_ _));done))
      |(refine HL45.out _ (TwoO.bl (base:=w.1.size) (W1:=w) (A1:=B1) (n1:=qk.length+1) (c1:=e1) (xs:=qk++[y.q]) (A2:=A2) (n2:=ck.length) (c2:=c2) (ys:=ck) ?_);((repeat (first|with_reducible assumption|with_reducible refine TwoO.drew' ?_|with_reducible refine TwoO.alloc ?_ _));done))
      |(refine HL45.out _ (TwoO.bl (base:=w.1.size) (W1:=w) (A1:=B1) (n1:=qk.length+1) (c1:=e1) (xs:=qk++[y.q]) (A2:=B2) (n2:=ck.length+1) (c2:=e2) (ys:=ck++[y.c]) ?_);((repeat (first|with_reducible assumption|with_reducible refine TwoO.drew' ?_|with_reducible refine TwoO.alloc ?_ _));done))
      |go_keep)
   (first
     |(refine ZaZ _ (by rfl) (.tmp 13) (.tmp 19) _ (by rfl) Zbm Vu Za8 (.slice A1 qk.length c1) qk (by rfl) (TwoO.o1 (base:=w.1.size) (W1:=w) (xs:=qk) (A2:=A2) (n2:=ck.length) (c2:=c2) (ys:=ck) ?_) _ _ 1 1 [y.q] (by rfl) (Ziu (T:=24) ?_) (by have:=HLQ.out;omega) (TwoO.hb (A1:=A1) (n1:=qk.length) (c1:=c1) (base:=w.1.size) (W1:=w) (xs:=qk) (A2:=A2) (n2:=ck.length) (c2:=c2) (ys:=ck) ?_) ?_
       focus ((repeat (first|with_reducible assumption|with_reducible refine TwoO.drew' ?_|with_reducible refine TwoO.alloc ?_ _));done)
       focus ((repeat (first|with_reducible assumption|with_reducible refine BlkB.drew' ?_|(refine BlkB.new' ?_;first|rfl|(simp;done))|with_reducible refine BlkB.alloc ?_ _));done)
       focus ((repeat (first|with_reducible assumption|with_reducible refine TwoO.drew' ?_|with_reducible refine TwoO.alloc ?_ _));done)
       intro B1 e1 X1 ho1 hg1 hat1;have T1:=TwoO.app1 (base:=w.1.size) (W1:=w) (xs:=qk) (A2:=A2) (n2:=ck.length) (c2:=c2) (ys:=ck) ?_ ho1 hg1 hat1
       first|(focus ((repeat (first|with_reducible assumption|with_reducible refine TwoO.drew' ?_|with_reducible refine TwoO.alloc ?_ _));done))|(rotate_left;focus ((repeat (first|with_reducible assumption|with_reducible refine TwoO.drew' ?_|with_reducible refine TwoO.alloc ?_ _));done))
       have hs1:=T1.hb;clear hat1 ho1
       first
        |(have bo1:BlkB X1 wr.1.size #[.string ⟨y.c.toArray⟩] 24:=BlkB.gr hg1 (fun e=>by have:=HO1.out _ e.symm;omega) ?_
          first|(focus ((repeat (first|with_reducible assumption|with_reducible refine BlkB.drew' ?_|(refine BlkB.new' ?_;first|rfl|(simp;done))|with_reducible refine BlkB.alloc ?_ _));done))|(rotate_left;focus ((repeat (first|with_reducible assumption|with_reducible refine BlkB.drew' ?_|(refine BlkB.new' ?_;first|rfl|(simp;done))|with_reducible refine BlkB.alloc ?_ _));done))
          clear hg1)
        |(have bo1:BlkB X1 (wr.1.size+1) #[.string ⟨y.c.toArray⟩] 24:=BlkB.gr hg1 (fun e=>by have:=HO1.out _ e.symm;omega) ?_
          first|(focus ((repeat (first|with_reducible assumption|with_reducible refine BlkB.drew' ?_|(refine BlkB.new' ?_;first|rfl|(simp;done))|with_reducible refine BlkB.alloc ?_ _));done))|(rotate_left;focus ((repeat (first|with_reducible assumption|with_reducible refine BlkB.drew' ?_|(refine BlkB.new' ?_;first|rfl|(simp;done))|with_reducible refine BlkB.alloc ?_ _));done))
          clear hg1)
        |clear hg1)
     |(refine ZaZ _ (by rfl) (.tmp 13) (.tmp 19) _ (by rfl) Zbm Vu Za8 (.slice A1 qk.length c1) qk (by rfl) (TwoO.o1 (base:=w.1.size) (W1:=w) (xs:=qk) (A2:=B2) (n2:=ck.length+1) (c2:=e2) (ys:=ck++[y.c]) ?_) _ _ 1 1 [y.q] (by rfl) (Ziu (T:=24) ?_) (by have:=HLQ.out;omega) (TwoO.hb (A1:=A1) (n1:=qk.length) (c1:=c1) (base:=w.1.size) (W1:=w) (xs:=qk) (A2:=B2) (n2:=ck.length+1) (c2:=e2) (ys:=ck++[y.c]) ?_) ?_
       focus ((repeat (first|with_reducible assumption|with_reducible refine TwoO.drew' ?_|with_reducible refine TwoO.alloc ?_ _));done)
       focus ((repeat (first|with_reducible assumption|with_reducible refine BlkB.drew' ?_|(refine BlkB.new' ?_;first|rfl|(simp;done))|with_reducible refine BlkB.alloc ?_ _));done)
       focus ((repeat (first|with_reducible assumption|with_reducible refine TwoO.drew' ?_|with_reducible refine TwoO.alloc ?_ _));done)
       intro B1 e1 X1 ho1 hg1 hat1;have T1:=TwoO.app1 (base:=w.1.size) (W1:=w) (xs:=qk) (A2:=B2) (n2:=ck.length+1) (c2:=e2) (ys:=ck++[y.c]) ?_ ho1 hg1 hat1
       first|(focus ((repeat (first|with_reducible assumption|with_reducible refine TwoO.drew' ?_|with_reducible refine TwoO.alloc ?_ _));done))|(rotate_left;focus ((repeat (first|with_reducible assumption|with_reducible refine TwoO.drew' ?_|with_reducible refine TwoO.alloc ?_ _));done))
       have hs1:=T1.hb;clear hat1 ho1
       first
        |(have bo1:BlkB X1 wr.1.size #[.string ⟨y.c.toArray⟩] 24:=BlkB.gr hg1 (fun e=>by have:=HO1.out _ e.symm;omega) ?_
          first|(focus ((repeat (first|with_reducible assumption|with_reducible refine BlkB.drew' ?_|(refine BlkB.new' ?_;first|rfl|(simp;done))|with_reducible refine BlkB.alloc ?_ _));done))|(rotate_left;focus ((repeat (first|with_reducible assumption|with_reducible refine BlkB.drew' ?_|(refine BlkB.new' ?_;first|rfl|(simp;done))|with_reducible refine BlkB.alloc ?_ _));done))
          clear hg1)
        |(have bo1:BlkB X1 (wr.1.size+1) #[.string ⟨y.c.toArray⟩] 24:=BlkB.gr hg1 (fun e=>by have:=HO1.out _ e.symm;omega) ?_
          first|(focus ((repeat (first|with_reducible assumption|with_reducible refine BlkB.drew' ?_|(refine BlkB.new' ?_;first|rfl|(simp;done))|with_reducible refine BlkB.alloc ?_ _));done))|(rotate_left;focus ((repeat (first|with_reducible assumption|with_reducible refine BlkB.drew' ?_|(refine BlkB.new' ?_;first|rfl|(simp;done))|with_reducible refine BlkB.alloc ?_ _));done))
          clear hg1)
        |clear hg1)
     |(refine ZaZ _ (by rfl) (.tmp 21) (.tmp 27) _ (by rfl) Zbm Vu Za8 (.slice A2 ck.length c2) ck (by rfl) (TwoO.o2 (base:=w.1.size) (W1:=w) (ys:=ck) (A1:=A1) (n1:=qk.length) (c1:=c1) (xs:=qk) ?_) _ _ 1 1 [y.c] (by rfl) (Ziu (T:=24) ?_) (by have:=HLQ.out;omega) (TwoO.hb (A2:=A2) (n2:=ck.length) (c2:=c2) (base:=w.1.size) (W1:=w) (ys:=ck) (A1:=A1) (n1:=qk.length) (c1:=c1) (xs:=qk) ?_) ?_
       focus ((repeat (first|with_reducible assumption|with_reducible refine TwoO.drew' ?_|with_reducible refine TwoO.alloc ?_ _));done)
       focus ((repeat (first|with_reducible assumption|with_reducible refine BlkB.drew' ?_|(refine BlkB.new' ?_;first|rfl|(simp;done))|with_reducible refine BlkB.alloc ?_ _));done)
       focus ((repeat (first|with_reducible assumption|with_reducible refine TwoO.drew' ?_|with_reducible refine TwoO.alloc ?_ _));done)
       intro B2 e2 X2 ho2 hg2 hat2;have T2:=TwoO.app2 (base:=w.1.size) (W1:=w) (ys:=ck) (A1:=A1) (n1:=qk.length) (c1:=c1) (xs:=qk) ?_ ho2 hg2 hat2
       first|(focus ((repeat (first|with_reducible assumption|with_reducible refine TwoO.drew' ?_|with_reducible refine TwoO.alloc ?_ _));done))|(rotate_left;focus ((repeat (first|with_reducible assumption|with_reducible refine TwoO.drew' ?_|with_reducible refine TwoO.alloc ?_ _));done))
       have hs2:=T2.hb;clear hat2 ho2
       first
        |(have bo2:BlkB X2 wr.1.size #[.string ⟨y.q.toArray⟩] 24:=BlkB.gr hg2 (fun e=>by have:=HO2.out _ e.symm;omega) ?_
          first|(focus ((repeat (first|with_reducible assumption|with_reducible refine BlkB.drew' ?_|(refine BlkB.new' ?_;first|rfl|(simp;done))|with_reducible refine BlkB.alloc ?_ _));done))|(rotate_left;focus ((repeat (first|with_reducible assumption|with_reducible refine BlkB.drew' ?_|(refine BlkB.new' ?_;first|rfl|(simp;done))|with_reducible refine BlkB.alloc ?_ _));done))
          clear hg2)
        |(have bo2:BlkB X2 (wr.1.size+1) #[.string ⟨y.q.toArray⟩] 24:=BlkB.gr hg2 (fun e=>by have:=HO2.out _ e.symm;omega) ?_
          first|(focus ((repeat (first|with_reducible assumption|with_reducible refine BlkB.drew' ?_|(refine BlkB.new' ?_;first|rfl|(simp;done))|with_reducible refine BlkB.alloc ?_ _));done))|(rotate_left;focus ((repeat (first|with_reducible assumption|with_reducible refine BlkB.drew' ?_|(refine BlkB.new' ?_;first|rfl|(simp;done))|with_reducible refine BlkB.alloc ?_ _));done))
          clear hg2)
        |clear hg2)
     |(refine ZaZ _ (by rfl) (.tmp 21) (.tmp 27) _ (by rfl) Zbm Vu Za8 (.slice A2 ck.length c2) ck (by rfl) (TwoO.o2 (base:=w.1.size) (W1:=w) (ys:=ck) (A1:=B1) (n1:=qk.length+1) (c1:=e1) (xs:=qk++[y.q]) ?_) _ _ 1 1 [y.c] (by rfl) (Ziu (T:=24) ?_) (by have:=HLQ.out;omega) (TwoO.hb (A2:=A2) (n2:=ck.length) (c2:=c2) (base:=w.1.size) (W1:=w) (ys:=ck) (A1:=B1) (n1:=qk.length+1) (c1:=e1) (xs:=qk++[y.q]) ?_) ?_
       focus ((repeat (first|with_reducible assumption|with_reducible refine TwoO.drew' ?_|with_reducible refine TwoO.alloc ?_ _));done)
       focus ((repeat (first|with_reducible assumption|with_reducible refine BlkB.drew' ?_|(refine BlkB.new' ?_;first|rfl|(simp;done))|with_reducible refine BlkB.alloc ?_ _));done)
       focus ((repeat (first|with_reducible assumption|with_reducible refine TwoO.drew' ?_|with_reducible refine TwoO.alloc ?_ _));done)
       intro B2 e2 X2 ho2 hg2 hat2;have T2:=TwoO.app2 (base:=w.1.size) (W1:=w) (ys:=ck) (A1:=B1) (n1:=qk.length+1) (c1:=e1) (xs:=qk++[y.q]) ?_ ho2 hg2 hat2
       first|(focus ((repeat (first|with_reducible assumption|with_reducible refine TwoO.drew' ?_|with_reducible refine TwoO.alloc ?_ _));done))|(rotate_left;focus ((repeat (first|with_reducible assumption|with_reducible refine TwoO.drew' ?_|with_reducible refine TwoO.alloc ?_ _));done))
       have hs2:=T2.hb;clear hat2 ho2
       first
        |(have bo2:BlkB X2 wr.1.size #[.string ⟨y.q.toArray⟩] 24:=BlkB.gr hg2 (fun e=>by have:=HO2.out _ e.symm;omega) ?_
          first|(focus ((repeat (first|with_reducible assumption|with_reducible refine BlkB.drew' ?_|(refine BlkB.new' ?_;first|rfl|(simp;done))|with_reducible refine BlkB.alloc ?_ _));done))|(rotate_left;focus ((repeat (first|with_reducible assumption|with_reducible refine BlkB.drew' ?_|(refine BlkB.new' ?_;first|rfl|(simp;done))|with_reducible refine BlkB.alloc ?_ _));done))
          clear hg2)
        |(have bo2:BlkB X2 (wr.1.size+1) #[.string ⟨y.q.toArray⟩] 24:=BlkB.gr hg2 (fun e=>by have:=HO2.out _ e.symm;omega) ?_
          first|(focus ((repeat (first|with_reducible assumption|with_reducible refine BlkB.drew' ?_|(refine BlkB.new' ?_;first|rfl|(simp;done))|with_reducible refine BlkB.alloc ?_ _));done))|(rotate_left;focus ((repeat (first|with_reducible assumption|with_reducible refine BlkB.drew' ?_|(refine BlkB.new' ?_;first|rfl|(simp;done))|with_reducible refine BlkB.alloc ?_ _));done))
          clear hg2)
        |clear hg2)
     |fail)
   all_goals
    go_wp2_with fail
    go_roundw
    case rel=>
     refine⟨k+1,B1,e1,B2,e2,by omega,by go_num,by rw[HTQ.out,List.length_append];rfl,by rw[HTC.out,List.length_append];rfl,?_⟩
     show TwoO _ _ _ _ _ _ _ _ _ _ _
     rw[HTQ.out,HTC.out,List.length_append,List.length_append]
     assumption
    case measure=>simp[intOf];omega
  ·obtain rfl:k=n:=by omega
   have HE:=jq (show ls.take k=ls by rw[List.take_of_length_le (by have:=HNN.out;omega)]);rw[HE.out] at HT;have h1:=HT.out.o1;have h2:=HT.out.o2;have HSL:=jq (And.intro h1 h2);have l1:(ls.map (·.q)).length=k:=by rw[List.length_map];exact HNN.out.symm
   have l2:(ls.map (·.c)).length=k:=by rw[List.length_map];exact HNN.out.symm
   rw[HE.out];rw[l1,l2];rw[l1,l2] at HSL;clear h1 h2 l1 l2;go_wp2_with fail
   first|go_ret2|skip
   rw[HPO.out];exact⟨A1,c1,A2,c2,rfl,HSL.out.1,HSL.out.2,HT.out.bl⟩
end
end Go.Proofs.YtkddgeclncafoaaGreatDoor
