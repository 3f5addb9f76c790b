/- Rq8, RqC, Rq10. -/
import Derived.Test.YtpnncoinlopndaaGreatDoorQGSm27
import Derived.Test.YtpnncoinlopndaaGreatDoorQGSm28
import Derived.Test.YtpnncoinlopndaaGreatDoorQGSm26
set_option maxRecDepth 100000
set_option maxHeartbeats 8000000
namespace Go.Proofs.YtpnncoinlopndaaGreatDoor
open Go.Lib renaming hid→hdz
section
open Go.RowKit Go.Shelf
attribute [local go_sem ↓] Go.wp_at_zero Go.wp_at_succ
theorem Zhf(l:Lot)(w:World)(hl:l.Sz 50000):Calls Tryz.prog 135 #[LotV l] w (CmpIPost (lotC l) w):=by
 have HPO:=hdz (show CmpIPost (lotC l) w=fun e w'=>e=.returned (.int .i64 (lotC l))∧Below w.heap.size w w' from rfl)
 have HSC:=hdz (show lotC l=if !(idB l.id&&nameB l.inst) then 23 else if !(dayB l.acq&&dayB l.opn) then 13 else if l.opn<l.acq then 8
  else if !(canB l.q&&canB l.c&&canB l.u) then 1 else if(decide (val l.q≤0)=true∨decide (val l.c<0)=true∨(l.u≠[]∧l.u≠l.q)) then 2 else 0 by unfold lotC;simp only[decide_eq_true_eq])
 generalize CmpIPost (lotC l) w=post at*
 generalize lotC l=res at*
 have HB:=hdz ((Below.refl w.heap.size w).alloc (Nat.le_refl _) (.cells #[.string ⟨l.id.toArray⟩,.string ⟨l.inst.toArray⟩,.int .i64 l.acq,.int .i64 l.opn,.string ⟨l.q.toArray⟩,.string ⟨l.c.toArray⟩,.string ⟨l.u.toArray⟩] 54))
 have hbk:BlkB (w.alloc (.cells #[.string ⟨l.id.toArray⟩,.string ⟨l.inst.toArray⟩,.int .i64 l.acq,.int .i64 l.opn,.string ⟨l.q.toArray⟩,.string ⟨l.c.toArray⟩,.string ⟨l.u.toArray⟩] 54)) w.heap.size #[.string ⟨l.id.toArray⟩,.string ⟨l.inst.toArray⟩,.int .i64 l.acq,.int .i64 l.opn,.string ⟨l.q.toArray⟩,.string ⟨l.c.toArray⟩,.string ⟨l.u.toArray⟩] 54:=heap_alloc_new w _
 have c0:=hbk.cell 0 rfl;have c1:=hbk.cell 1 rfl;have c2:=hbk.cell 2 rfl;have c3:=hbk.cell 3 rfl;have c4:=hbk.cell 4 rfl;have c5:=hbk.cell 5 rfl;have c6:=hbk.cell 6 rfl
 have HID:=hdz (fun W=>ZlK l.id W (by have:=hl.id;omega))
 have HNM:=hdz (fun W=>Zci l.inst W (by have:=hl.inst;unfold maxLen;omega))
 have HAQ:=hdz (fun W=>Zgw l.acq W hl.a1 hl.a2)
 have HOP:=hdz (fun W=>Zgw l.opn W hl.o1 hl.o2)
 have HCQ:=hdz (fun W=>ZaK l.q W (by have:=hl.q;omega))
 have HCC:=hdz (fun W=>ZaK l.c W (by have:=hl.c;omega))
 have HCU:=hdz (fun W=>ZaK l.u W (by have:=hl.u;omega))
 have HSQ:=hdz (fun W=>Zgn l.q W (by have:=hl.q;omega))
 have HSG:=hdz (fun W=>Zgn l.c W (by have:=hl.c;omega))
 have E1:=hdz (ZjK (val l.q));have E2:=hdz (Zfx (val l.c))
 clear hbk hl
 generalize sgnI (val l.q)=z1 at *; generalize sgnI (val l.c)=z2 at*
 generalize decide (val l.q≤0)=g1 at *; generalize decide (val l.c<0)=g2 at*
 generalize canB l.q=k1 at *; generalize canB l.c=k2 at *; generalize canB l.u=k3 at*
 generalize dayB l.acq=d1 at *; generalize dayB l.opn=d2 at*
 generalize idB l.id=n1 at *; generalize nameB l.inst=n2 at*
 unfold LotV
 unfold S at*
 go_enter Tryz.func135,Tryz.ntmps135
 go_wp2_with fail
 generalize (w.alloc _)=W0 at*
 refine(HID.out _).mono ?_
 rintro e w1 ⟨rfl,rfl⟩
 cases n1 with
 |false=>
  go_wp2_with fail
  first|go_ret|skip
  rw[HPO.out]
  exact⟨Zad (HSC.out.trans (by simp)).symm,HB.out⟩
 |true=>
 go_wp2_with fail
 refine(HNM.out _).mono ?_
 rintro e w1 ⟨rfl,rfl⟩
 cases n2 with
 |false=>
  go_wp2_with fail
  first|go_ret|skip
  rw[HPO.out]
  exact⟨Zad (HSC.out.trans (by simp)).symm,HB.out⟩
 |true=>
 rw[if_neg (by simp)] at HSC
 go_wp2_with fail
 refine(HAQ.out _).mono ?_
 rintro e w1 ⟨rfl,rfl⟩
 cases d1 with
 |false=>
  go_wp2_with fail
  first|go_ret|skip
  rw[HPO.out]
  exact⟨Zad (HSC.out.trans (by simp)).symm,HB.out⟩
 |true=>
 go_wp2_with fail
 refine(HOP.out _).mono ?_
 rintro e w1 ⟨rfl,rfl⟩
 cases d2 with
 |false=>
  go_wp2_with fail
  first|go_ret|skip
  rw[HPO.out]
  exact⟨Zad (HSC.out.trans (by simp)).symm,HB.out⟩
 |true=>
 rw[if_neg (by simp)] at HSC
 by_cases h3:l.opn<l.acq
 ·rw[if_pos h3] at HSC
  go_wp2_with fail
  first|go_ret|skip
  rw[HPO.out]
  exact⟨Zad HSC.out.symm,HB.out⟩
 rw[if_neg h3] at HSC
 go_wp2_with fail
 refine(HCQ.out _).mono ?_
 rintro e w1 ⟨rfl,rfl⟩
 cases k1 with
 |false=>
  go_wp2_with fail
  first|go_ret|skip
  rw[HPO.out]
  exact⟨Zad (HSC.out.trans (by simp)).symm,HB.out⟩
 |true=>
 go_wp2_with fail
 refine(HCC.out _).mono ?_
 rintro e w1 ⟨rfl,rfl⟩
 cases k2 with
 |false=>
  go_wp2_with fail
  first|go_ret|skip
  rw[HPO.out]
  exact⟨Zad (HSC.out.trans (by simp)).symm,HB.out⟩
 |true=>
 go_wp2_with fail
 refine(HCU.out _).mono ?_
 rintro e w1 ⟨rfl,rfl⟩
 cases k3 with
 |false=>
  go_wp2_with fail
  first|go_ret|skip
  rw[HPO.out]
  exact⟨Zad (HSC.out.trans (by simp)).symm,HB.out⟩
 |true=>
 rw[if_neg (by simp)] at HSC
 go_wp2_with fail
 refine(HSQ.out _).mono ?_
 rintro e w1 ⟨rfl,rfl⟩
 by_cases hz1:z1≤0
 ·rw[decide_eq_true hz1] at E1
  rw[if_pos (.inl E1.out.symm)] at HSC
  go_wp2_with fail
  first|go_ret|skip
  rw[HPO.out]
  exact⟨Zad HSC.out.symm,HB.out⟩
 rw[decide_eq_false hz1] at E1
 go_wp2_with fail
 refine(HSG.out _).mono ?_
 rintro e w1 ⟨rfl,rfl⟩
 by_cases hz2:z2<0
 ·rw[decide_eq_true hz2] at E2
  rw[if_pos (.inr (.inl E2.out.symm))] at HSC
  go_wp2_with fail
  first|go_ret|skip
  rw[HPO.out]
  exact⟨Zad HSC.out.symm,HB.out⟩
 rw[decide_eq_false hz2] at E2
 by_cases hu:l.u=[]
 ·rw[if_neg (by rw[←E1.out,←E2.out];simp[hu])] at HSC
  have q1:(l.u==[])=true:=by simp[hu]
  have q2:(l.u !=[])=false:=by simp[hu]
  have q3:l.u.isEmpty=true:=by simp[hu]
  clear hu
  go_wp2_with fail
  first|go_ret|skip
  rw[HPO.out]
  exact⟨Zad HSC.out.symm,HB.out⟩
 ·have q1:(l.u==[])=false:=by simp[hu]
  have q2:(l.u !=[])=true:=by simp[hu]
  have q3:l.u.isEmpty=false:=by simp[hu]
  by_cases hq:l.u=l.q
  ·rw[if_neg (by rw[←E1.out,←E2.out];simp[hq])] at HSC
   have r1:(l.u==l.q)=true:=by simp[hq]
   have r2:(l.u !=l.q)=false:=by simp[hq]
   clear hu hq
   go_wp2_with fail
   first|go_ret|skip
   rw[HPO.out]
   exact⟨Zad HSC.out.symm,HB.out⟩
  ·rw[if_pos (.inr (.inr ⟨hu,hq⟩))] at HSC
   have r1:(l.u==l.q)=false:=by simp[hq]
   have r2:(l.u !=l.q)=true:=by simp[hq]
   clear hu hq
   go_wp2_with fail
   first|go_ret|skip
   rw[HPO.out]
   exact⟨Zad HSC.out.symm,HB.out⟩
theorem ZiO(A:Option Addr)(n c:Nat)(ls:List Lot)(id:List UInt8)(w:World)(hs:Lots w w.heap.size A n ls)(hn:n≤1000000000):
 Calls Tryz.prog 38 #[.slice A n c,S id] w fun e w'=>e=.returned (.tuple #[.int .i64 (max (fndI ls id) 0),.bool (decide (id∈ls.map (·.id)))])∧Below w.heap.size w w':=by
 rw[←Zhe]
 have HFI:=hdz (show fndI ls id=idxG (fun x:Lot=>x.id==id) ls from rfl)
 have HR:=hdz hs
 generalize fndI ls id=z at*
 clear hs
 unfold S
 go_enter Tryz.func38,Tryz.ntmps38
 go_wp2_with fail
 go_loopw [6] (fun i wr=>∃j:Nat,j≤n∧i=.int .i64 j∧Hid ((ls.take j).any (fun x:Lot=>x.id==id)=false)∧Below w.heap.size w wr) (fun i _=>n-(intOf i).toNat)
 case atStart=>exact⟨0,Nat.zero_le _,rfl,by show _=_;simp,Below.refl _ _⟩
 case round=>
  obtain⟨j,hj,rfl,HN,hb⟩:=hrel
  by_cases hlt:j<n
  ·obtain⟨b,off,r,rfl,hbl,hxj,d0,d1,d2,d3,d4,d5,d6⟩:=(HR.out.below hb).lot hlt
   have HX:=hdz hxj
   clear hxj d1 d2 d3 d4 d5 d6
   cases hq:(r.id==id) with
   |true=>
    have HQ:=hdz hq
    have HZ:=hdz (show z=(j:Int) by rw[HFI.out];exact Zfo HX.out HQ.out HN.out)
    have hz0:0≤z:=by have:=HZ.out;omega
    go_wp2_with fail
    first|go_ret2|skip
    rw[HZ.out]
    refine⟨?_,hb⟩
    rw[show max (j:Int) 0=j by omega,decide_eq_true (show(0:Int)≤j by omega)]
    rfl
   |false=>
    have HQ:=hdz hq
    go_wp2_with fail
    go_roundw
    case rel=>exact⟨j+1,by omega,by go_num,Zc0 HX.out HN.out HQ.out,hb⟩
    case measure=>simp[intOf];omega
  ·have HZ:=hdz (show z= -1 by rw[HFI.out];exact ZcZ (by have:=HN.out;rwa [List.take_of_length_le (by have:=HR.out.1;omega)] at this))
   go_wp2_with fail
   first|go_ret2|skip
   rw[HZ.out]
   exact⟨rfl,hb⟩
theorem ZeN(A:Option Addr)(n c:Nat)(ls:List Lot)(w:World)(hs:Lots w w.heap.size A n ls)(hl:∀x∈ls,x.Sz 50000)(hn:n≤1000000000)(hcap:n≤c):Calls Tryz.prog 85 #[.slice A n c] w (CmpIPost (allC ls) w):=by
 have HPO:=hdz (show CmpIPost (allC ls) w=fun e w'=>e=.returned (.int .i64 (allC ls))∧Below w.heap.size w w' from rfl)
 have HSC:=hdz (show allC ls=if 1000<ls.length then 4 else lotsC [] ls from rfl)
 generalize CmpIPost (allC ls) w=post at*
 generalize allC ls=res at*
 have HS:=hdz hs
 have hnw:=hs.1
 have H0:=hdz (Below.refl w.heap.size w)
 have HCK:=hdz (fun x hx W=>Zhf x W (hl x hx))
 rw[←hnw] at HSC
 clear hs hl
 by_cases h1:1000<n
 ·rw[if_pos h1] at HSC
  clear hnw hn
  go_enter Tryz.func85,Tryz.ntmps85
  go_wp2_with fail
  first|go_ret|skip
  rw[HPO.out,HSC.out]
  exact⟨rfl,H0.out⟩
 rw[if_neg h1] at HSC
 have hn1:¬1000<n:=h1
 have HNW:=hdz hnw
 clear hnw h1
 go_enter Tryz.func85,Tryz.ntmps85
 go_wp2_with fail
 go_loopw [3] (fun i wr=>∃(k:Nat) (seen:List (List UInt8)),k≤n∧i=.int .i64 k∧Hid (Below w.heap.size w wr)∧Hid (∀y,y∈seen↔y∈(ls.take k).map (·.id))∧Hid (lotsC seen (ls.drop k)=res)) (fun i _=>n-(intOf i).toNat)
 case atStart=>exact⟨0,[],Nat.zero_le _,rfl,H0,by show ∀_,_;simp,by show _=_;rw[List.drop_zero];exact HSC.out.symm⟩
 case round=>
  clear H0
  obtain⟨k,seen,hk,rfl,H,HSE,HQ⟩:=hrel
  by_cases hlt:k<n
  ·obtain⟨b,off,x,rfl,hb,hx,d0,d1,d2,d3,d4,d5,d6⟩:=(HS.out.below H.out).lot hlt
   have HX:=hdz hx
   clear hx
   have HC:=hdz (HCK.out x (List.mem_of_getElem? HX.out) wr)
   have HDR:=hdz (show lotsC seen (x::ls.drop (k+1))=res by
    have hx:=HX.out
    obtain⟨hk,rfl⟩:=List.getElem?_eq_some_iff.1 hx
    rw[←List.drop_eq_getElem_cons hk]
    exact HQ.out)
   clear HQ
   have HLC:=hdz (show lotsC seen (x::ls.drop (k+1))=if lotC x≠0 then lotC x else if x.id∈seen then 5 else lotsC (x.id::seen) (ls.drop (k+1)) from rfl)
   rw[HDR.out] at HLC
   clear HDR
   have HFD:=hdz (fun W (hW:Below w.heap.size w W)=>ZiO (some ⟨b,off,none⟩) k c (ls.take k) x.id W (((HS.out.below hW).more hW.size).take hk) (by omega))
   have HSN:=hdz (show ∀y,y∈x.id::seen↔y∈(ls.take (k+1)).map (·.id) by
    intro y
    obtain⟨h1,h2⟩:=List.getElem?_eq_some_iff.1 HX.out
    rw[List.take_succ_eq_append_getElem h1,h2,List.map_append,List.mem_append,List.mem_cons,HSE.out y]
    simp only[List.map_cons,List.map_nil,List.mem_singleton]
    exact or_comm)
   have HDE:=hdz (show decide (x.id∈(ls.take k).map (·.id))=decide (x.id∈seen) by rw[Bool.eq_iff_iff,decide_eq_true_eq,decide_eq_true_eq];exact(HSE.out x.id).symm)
   rw[HDE.out] at HFD
   clear HSE HDE
   generalize max (fndI (ls.take k) x.id) 0=fi at*
   unfold LotV CmpIPost S at HC
   unfold S at HFD
   generalize lotC x=z at*
   go_wp2_with fail
   refine HC.out.mono ?_
   rintro e w1 ⟨rfl,hb1⟩
   replace H:=hdz (H.out.trans (hb1.mono H.out.size))
   have e0:w1.cell? ⟨b,off+k*7,none⟩=some (.string ⟨x.id.toArray⟩):=by
    obtain⟨b2,off2,x2,hA,_,hx2,e0,_⟩:=(HS.out.below H.out).lot hlt
    injection hA with hA
    injection hA with h1 h2
    subst h1;subst h2
    rw[HX.out] at hx2
    injection hx2 with hx2
    subst hx2
    exact e0
   clear hb1 d0 d1 d2 d3 d4 d5 d6
   by_cases hz:z=0
   ·have hz0:(z !=0)=false:=by simp[hz]
    rw[if_neg (by simpa using hz)] at HLC
    clear hz
    have i1:(0:Int)≤(k:Int):=by omega
    have i2:(k:Int)<(n:Int):=by omega
    have i3:(k:Int)≤(c:Int):=by omega
    go_upto_region 9 with (fail)
    cases hin:decide (x.id∈seen) with
    |true=>
     rw[hin] at HFD
     rw[if_pos (of_decide_eq_true hin)] at HLC
     clear hin
     go_region_held3 (fun w'=>w'.cell? ⟨b,off+k*7,none⟩=some (.string ⟨x.id.toArray⟩)) (go_keep)
      ((go_at_call 38;refine(HFD.out _ H.out.drew).mono ?_;rintro e w2 ⟨rfl,hb2⟩;have e2:w2.cell? ⟨b,off+k*7,none⟩=some (.string ⟨x.id.toArray⟩):=(hb2.cell (p:=⟨b,off+k*7,none⟩) (World.block_lt_of_cell? _ _ e0)).trans e0;have H9:=hdz (H.out.drew.trans (hb2.mono H.out.drew.size))))
     all_goals
      go_wp2_with fail
      first|go_ret|skip
      rw[HPO.out,HLC.out]
      exact⟨rfl,H9.out⟩
    |false=>
     rw[hin] at HFD
     rw[if_neg (of_decide_eq_false hin)] at HLC
     clear hin
     go_region_held3 (fun w'=>w'.cell? ⟨b,off+k*7,none⟩=some (.string ⟨x.id.toArray⟩)) (go_keep)
      ((go_at_call 38;refine(HFD.out _ H.out.drew).mono ?_;rintro e w2 ⟨rfl,hb2⟩;have e2:w2.cell? ⟨b,off+k*7,none⟩=some (.string ⟨x.id.toArray⟩):=(hb2.cell (p:=⟨b,off+k*7,none⟩) (World.block_lt_of_cell? _ _ e0)).trans e0;have H9:=hdz (H.out.drew.trans (hb2.mono H.out.drew.size))))
     all_goals
      go_wp2_with fail
      go_roundw
      case rel=>exact⟨k+1,x.id::seen,by omega,by go_num,H9,HSN.out,HLC.out.symm⟩
      case measure=>simp[intOf];omega
   ·have hz0:(z !=0)=true:=by simp[hz]
    rw[if_pos hz] at HLC
    clear hz
    go_wp2_with fail
    first|go_ret|skip
    rw[HPO.out,HLC.out]
    exact⟨rfl,H.out⟩
  ·have HE:=hdz (show res=0 by
    have:=HQ.out
    rw[List.drop_eq_nil_of_le (by have:=HNW.out;omega)] at this
    exact this.symm)
   go_wp2_with fail
   first|go_ret|skip
   rw[HPO.out,HE.out]
   exact⟨rfl,H.out⟩
end
section
open Go.RowKit Go.Shelf
attribute [local go_sem ↓] Go.wp_at_zero Go.wp_at_succ
def ColPost(ls:List Lot)(n:Nat)(w:World)(e:Ending)(w':World):Prop:=
 ∃A1 c1 A2 c2,e=.returned (.tuple #[.slice A1 n c1,.slice A2 n c2])∧Own S1 1 24 w' w.heap.size (.slice A1 n c1) (ls.map (·.q))∧Own S1 1 24 w' w.heap.size (.slice A2 n c2) (ls.map (·.c))∧Below w.heap.size w w'
theorem Zdk(A:Option Addr)(n c:Nat)(ls:List Lot)(w:World)(hs:Lots w w.heap.size A n ls)(hn:n≤1000):
 Calls Tryz.prog 68 #[.slice A n c] w (ColPost ls n w):=by
 have HPO:=hdz (show ColPost ls n w=fun e w'=>∃A1 c1 A2 c2,e=.returned (.tuple #[.slice A1 n c1,.slice A2 n c2])∧Own S1 1 24 w' w.heap.size (.slice A1 n c1) (ls.map (·.q))∧Own S1 1 24 w' w.heap.size (.slice A2 n c2) (ls.map (·.c))∧Below w.heap.size w w' from rfl)
 generalize ColPost ls n w=post at*
 have HS:=hdz hs
 have HNN:=hdz hs.1
 clear hs
 go_enter Tryz.func68,Tryz.ntmps68
 go_wp2_with fail
 go_loopw [4,5,6] (fun s t j wr=>∃(k:Nat) (A1:Option Addr) (c1:Nat) (A2:Option Addr) (c2:Nat),k≤n∧j=.int .i64 k∧s=.slice A1 ((ls.take k).map (·.q)).length c1∧t=.slice A2 ((ls.take k).map (·.c)).length c2∧Hid (TwoO w.heap.size w wr A1 ((ls.take k).map (·.q)).length c1 ((ls.take k).map (·.q)) A2 ((ls.take k).map (·.c)).length c2 ((ls.take k).map (·.c)))) (fun _ _ j _=>n-(intOf j).toNat)
 case atStart=>exact⟨0,none,0,none,0,Nat.zero_le _,rfl,rfl,rfl,TwoO.nil (Nat.le_refl _) (Below.refl _ _)⟩
 case round=>
  obtain⟨k,A1,c1,A2,c2,hk,rfl,rfl,rfl,HT⟩:=hrel
  by_cases hlt:k<n
  ·obtain⟨b,off,y,hAe,hb,hy,d0,d1,d2,d3,d4,d5,d6⟩:=(HS.out.below HT.out.bl).lot hlt
   have HTQ:=hdz (show(ls.take (k+1)).map (·.q)=(ls.take k).map (·.q)++[y.q] by obtain⟨h1,h2⟩:=List.getElem?_eq_some_iff.1 hy;rw[List.take_succ_eq_append_getElem h1,h2,List.map_append];rfl)
   have HTC:=hdz (show(ls.take (k+1)).map (·.c)=(ls.take k).map (·.c)++[y.c] by obtain⟨h1,h2⟩:=List.getElem?_eq_some_iff.1 hy;rw[List.take_succ_eq_append_getElem h1,h2,List.map_append];rfl)
   subst hAe
   have HL45:=hdz (show ∀X,Below w.heap.size w X→X.cell? ⟨b,off+k*7+4,none⟩=some (.string ⟨y.q.toArray⟩)∧X.cell? ⟨b,off+k*7+5,none⟩=some (.string ⟨y.c.toArray⟩) from fun X h=>by
    obtain⟨b2,off2,y2,hA2,_,hy2,_,_,_,_,e4,e5,_⟩:=(HS.out.below h).lot hlt
    injection hA2 with hA2
    injection hA2 with h1 h2
    subst h1;subst h2
    rw[hy] at hy2
    injection hy2 with hy2
    subst hy2
    exact⟨e4,e5⟩)
   clear hy d0 d1 d2 d3 d4 d5 d6
   generalize hqk:(ls.take k).map (·.q)=qk at*
   generalize hck:(ls.take k).map (·.c)=ck at*
   have HLQ:=hdz (show qk.length=k∧ck.length=k∧k<1000 by
    have h1:(ls.take k).length=k:=by rw[List.length_take,←HNN.out];omega
    rw[←hqk,←hck,List.length_map,List.length_map]
    omega)
   clear hqk hck
   have HO1:=hdz (show ∀g,(Value.slice A1 qk.length c1).ownBlock=some g→g<wr.heap.size from fun g hg=>(ZdI HT.out.o1 hg).2)
   have HO2:=hdz (show ∀g,(Value.slice A2 ck.length c2).ownBlock=some g→g<wr.heap.size from fun g hg=>(ZdI HT.out.o2 hg).2)
   have i1:(0:Int)≤(k:Int):=by omega
   have i2:(k:Int)<(n:Int):=by omega
   go_upto_region 5 with (fail)
   have T0:=HT.out
   clear hb
   go_region_held3 (fun X=>X.cell? ⟨b,off+k*7+4,none⟩=some (.string ⟨y.q.toArray⟩)∧X.cell? ⟨b,off+k*7+5,none⟩=some (.string ⟨y.c.toArray⟩))
    (first
      |(refine HL45.out _ (TwoO.bl (base:=w.heap.size) (W1:=w) (A1:=A1) (n1:=qk.length) (c1:=c1) (xs:=qk) (A2:=A2) (n2:=ck.length) (c2:=c2) (ys:=ck) ?_);((repeat (first|with_reducible assumption|with_reducible refine TwoO.drew' ?_|with_reducible refine TwoO.alloc ?_ _));done))
      |(refine HL45.out _ (TwoO.bl (base:=w.heap.size) (W1:=w) (A1:=A1) (n1:=qk.length) (c1:=c1) (xs:=qk) (A2:=B2) (n2:=ck.length+1) (c2:=e2) (ys:=ck++[y.c]) ?_);((repeat (first|with_reducible assumption|with_reducible refine TwoO.drew' ?_|with_reducible refine TwoO.alloc ?_ _));done))
      |(refine HL45.out _ (TwoO.bl (base:=w.heap.size) (W1:=w) (A1:=B1) (n1:=qk.length+1) (c1:=e1) (xs:=qk++[y.q]) (A2:=A2) (n2:=ck.length) (c2:=c2) (ys:=ck) ?_);((repeat (first|with_reducible assumption|with_reducible refine TwoO.drew' ?_|with_reducible refine TwoO.alloc ?_ _));done))
      |(refine HL45.out _ (TwoO.bl (base:=w.heap.size) (W1:=w) (A1:=B1) (n1:=qk.length+1) (c1:=e1) (xs:=qk++[y.q]) (A2:=B2) (n2:=ck.length+1) (c2:=e2) (ys:=ck++[y.c]) ?_);((repeat (first|with_reducible assumption|with_reducible refine TwoO.drew' ?_|with_reducible refine TwoO.alloc ?_ _));done))
      |go_keep)
   (first
     |(refine Za9 _ (by rfl) (.tmp 13) (.tmp 19) _ (by rfl) Zbv ZaL Zcc (.slice A1 qk.length c1) qk (by rfl) (TwoO.o1 (base:=w.heap.size) (W1:=w) (xs:=qk) (A2:=A2) (n2:=ck.length) (c2:=c2) (ys:=ck) ?_) _ _ 1 1 [y.q] (by rfl) (Zgo (T:=24) ?_) (by have:=HLQ.out;omega) (TwoO.hb (A1:=A1) (n1:=qk.length) (c1:=c1) (base:=w.heap.size) (W1:=w) (xs:=qk) (A2:=A2) (n2:=ck.length) (c2:=c2) (ys:=ck) ?_) ?_
       focus ((repeat (first|with_reducible assumption|with_reducible refine TwoO.drew' ?_|with_reducible refine TwoO.alloc ?_ _));done)
       focus ((repeat (first|with_reducible assumption|with_reducible refine BlkB.drew' ?_|(refine BlkB.new' ?_;first|rfl|(simp;done))|with_reducible refine BlkB.alloc ?_ _));done)
       focus ((repeat (first|with_reducible assumption|with_reducible refine TwoO.drew' ?_|with_reducible refine TwoO.alloc ?_ _));done)
       intro B1 e1 X1 ho1 hg1 hat1
       have T1:=TwoO.app1 (base:=w.heap.size) (W1:=w) (xs:=qk) (A2:=A2) (n2:=ck.length) (c2:=c2) (ys:=ck) ?_ ho1 hg1 hat1
       first|(focus ((repeat (first|with_reducible assumption|with_reducible refine TwoO.drew' ?_|with_reducible refine TwoO.alloc ?_ _));done))|(rotate_left;focus ((repeat (first|with_reducible assumption|with_reducible refine TwoO.drew' ?_|with_reducible refine TwoO.alloc ?_ _));done))
       have hs1:=T1.hb
       clear hat1 ho1
       first
        |(have bo1:BlkB X1 wr.heap.size #[.string ⟨y.c.toArray⟩] 24:=BlkB.gr hg1 (fun e=>by have:=HO1.out _ e.symm;omega) ?_
          first|(focus ((repeat (first|with_reducible assumption|with_reducible refine BlkB.drew' ?_|(refine BlkB.new' ?_;first|rfl|(simp;done))|with_reducible refine BlkB.alloc ?_ _));done))|(rotate_left;focus ((repeat (first|with_reducible assumption|with_reducible refine BlkB.drew' ?_|(refine BlkB.new' ?_;first|rfl|(simp;done))|with_reducible refine BlkB.alloc ?_ _));done))
          clear hg1)
        |(have bo1:BlkB X1 (wr.heap.size+1) #[.string ⟨y.c.toArray⟩] 24:=BlkB.gr hg1 (fun e=>by have:=HO1.out _ e.symm;omega) ?_
          first|(focus ((repeat (first|with_reducible assumption|with_reducible refine BlkB.drew' ?_|(refine BlkB.new' ?_;first|rfl|(simp;done))|with_reducible refine BlkB.alloc ?_ _));done))|(rotate_left;focus ((repeat (first|with_reducible assumption|with_reducible refine BlkB.drew' ?_|(refine BlkB.new' ?_;first|rfl|(simp;done))|with_reducible refine BlkB.alloc ?_ _));done))
          clear hg1)
        |clear hg1)
     |(refine Za9 _ (by rfl) (.tmp 13) (.tmp 19) _ (by rfl) Zbv ZaL Zcc (.slice A1 qk.length c1) qk (by rfl) (TwoO.o1 (base:=w.heap.size) (W1:=w) (xs:=qk) (A2:=B2) (n2:=ck.length+1) (c2:=e2) (ys:=ck++[y.c]) ?_) _ _ 1 1 [y.q] (by rfl) (Zgo (T:=24) ?_) (by have:=HLQ.out;omega) (TwoO.hb (A1:=A1) (n1:=qk.length) (c1:=c1) (base:=w.heap.size) (W1:=w) (xs:=qk) (A2:=B2) (n2:=ck.length+1) (c2:=e2) (ys:=ck++[y.c]) ?_) ?_
       focus ((repeat (first|with_reducible assumption|with_reducible refine TwoO.drew' ?_|with_reducible refine TwoO.alloc ?_ _));done)
       focus ((repeat (first|with_reducible assumption|with_reducible refine BlkB.drew' ?_|(refine BlkB.new' ?_;first|rfl|(simp;done))|with_reducible refine BlkB.alloc ?_ _));done)
       focus ((repeat (first|with_reducible assumption|with_reducible refine TwoO.drew' ?_|with_reducible refine TwoO.alloc ?_ _));done)
       intro B1 e1 X1 ho1 hg1 hat1
       have T1:=TwoO.app1 (base:=w.heap.size) (W1:=w) (xs:=qk) (A2:=B2) (n2:=ck.length+1) (c2:=e2) (ys:=ck++[y.c]) ?_ ho1 hg1 hat1
       first|(focus ((repeat (first|with_reducible assumption|with_reducible refine TwoO.drew' ?_|with_reducible refine TwoO.alloc ?_ _));done))|(rotate_left;focus ((repeat (first|with_reducible assumption|with_reducible refine TwoO.drew' ?_|with_reducible refine TwoO.alloc ?_ _));done))
       have hs1:=T1.hb
       clear hat1 ho1
       first
        |(have bo1:BlkB X1 wr.heap.size #[.string ⟨y.c.toArray⟩] 24:=BlkB.gr hg1 (fun e=>by have:=HO1.out _ e.symm;omega) ?_
          first|(focus ((repeat (first|with_reducible assumption|with_reducible refine BlkB.drew' ?_|(refine BlkB.new' ?_;first|rfl|(simp;done))|with_reducible refine BlkB.alloc ?_ _));done))|(rotate_left;focus ((repeat (first|with_reducible assumption|with_reducible refine BlkB.drew' ?_|(refine BlkB.new' ?_;first|rfl|(simp;done))|with_reducible refine BlkB.alloc ?_ _));done))
          clear hg1)
        |(have bo1:BlkB X1 (wr.heap.size+1) #[.string ⟨y.c.toArray⟩] 24:=BlkB.gr hg1 (fun e=>by have:=HO1.out _ e.symm;omega) ?_
          first|(focus ((repeat (first|with_reducible assumption|with_reducible refine BlkB.drew' ?_|(refine BlkB.new' ?_;first|rfl|(simp;done))|with_reducible refine BlkB.alloc ?_ _));done))|(rotate_left;focus ((repeat (first|with_reducible assumption|with_reducible refine BlkB.drew' ?_|(refine BlkB.new' ?_;first|rfl|(simp;done))|with_reducible refine BlkB.alloc ?_ _));done))
          clear hg1)
        |clear hg1)
     |(refine Za9 _ (by rfl) (.tmp 21) (.tmp 27) _ (by rfl) Zbv ZaL Zcc (.slice A2 ck.length c2) ck (by rfl) (TwoO.o2 (base:=w.heap.size) (W1:=w) (ys:=ck) (A1:=A1) (n1:=qk.length) (c1:=c1) (xs:=qk) ?_) _ _ 1 1 [y.c] (by rfl) (Zgo (T:=24) ?_) (by have:=HLQ.out;omega) (TwoO.hb (A2:=A2) (n2:=ck.length) (c2:=c2) (base:=w.heap.size) (W1:=w) (ys:=ck) (A1:=A1) (n1:=qk.length) (c1:=c1) (xs:=qk) ?_) ?_
       focus ((repeat (first|with_reducible assumption|with_reducible refine TwoO.drew' ?_|with_reducible refine TwoO.alloc ?_ _));done)
       focus ((repeat (first|with_reducible assumption|with_reducible refine BlkB.drew' ?_|(refine BlkB.new' ?_;first|rfl|(simp;done))|with_reducible refine BlkB.alloc ?_ _));done)
       focus ((repeat (first|with_reducible assumption|with_reducible refine TwoO.drew' ?_|with_reducible refine TwoO.alloc ?_ _));done)
       intro B2 e2 X2 ho2 hg2 hat2
       have T2:=TwoO.app2 (base:=w.heap.size) (W1:=w) (ys:=ck) (A1:=A1) (n1:=qk.length) (c1:=c1) (xs:=qk) ?_ ho2 hg2 hat2
       first|(focus ((repeat (first|with_reducible assumption|with_reducible refine TwoO.drew' ?_|with_reducible refine TwoO.alloc ?_ _));done))|(rotate_left;focus ((repeat (first|with_reducible assumption|with_reducible refine TwoO.drew' ?_|with_reducible refine TwoO.alloc ?_ _));done))
       have hs2:=T2.hb
       clear hat2 ho2
       first
        |(have bo2:BlkB X2 wr.heap.size #[.string ⟨y.q.toArray⟩] 24:=BlkB.gr hg2 (fun e=>by have:=HO2.out _ e.symm;omega) ?_
          first|(focus ((repeat (first|with_reducible assumption|with_reducible refine BlkB.drew' ?_|(refine BlkB.new' ?_;first|rfl|(simp;done))|with_reducible refine BlkB.alloc ?_ _));done))|(rotate_left;focus ((repeat (first|with_reducible assumption|with_reducible refine BlkB.drew' ?_|(refine BlkB.new' ?_;first|rfl|(simp;done))|with_reducible refine BlkB.alloc ?_ _));done))
          clear hg2)
        |(have bo2:BlkB X2 (wr.heap.size+1) #[.string ⟨y.q.toArray⟩] 24:=BlkB.gr hg2 (fun e=>by have:=HO2.out _ e.symm;omega) ?_
          first|(focus ((repeat (first|with_reducible assumption|with_reducible refine BlkB.drew' ?_|(refine BlkB.new' ?_;first|rfl|(simp;done))|with_reducible refine BlkB.alloc ?_ _));done))|(rotate_left;focus ((repeat (first|with_reducible assumption|with_reducible refine BlkB.drew' ?_|(refine BlkB.new' ?_;first|rfl|(simp;done))|with_reducible refine BlkB.alloc ?_ _));done))
          clear hg2)
        |clear hg2)
     |(refine Za9 _ (by rfl) (.tmp 21) (.tmp 27) _ (by rfl) Zbv ZaL Zcc (.slice A2 ck.length c2) ck (by rfl) (TwoO.o2 (base:=w.heap.size) (W1:=w) (ys:=ck) (A1:=B1) (n1:=qk.length+1) (c1:=e1) (xs:=qk++[y.q]) ?_) _ _ 1 1 [y.c] (by rfl) (Zgo (T:=24) ?_) (by have:=HLQ.out;omega) (TwoO.hb (A2:=A2) (n2:=ck.length) (c2:=c2) (base:=w.heap.size) (W1:=w) (ys:=ck) (A1:=B1) (n1:=qk.length+1) (c1:=e1) (xs:=qk++[y.q]) ?_) ?_
       focus ((repeat (first|with_reducible assumption|with_reducible refine TwoO.drew' ?_|with_reducible refine TwoO.alloc ?_ _));done)
       focus ((repeat (first|with_reducible assumption|with_reducible refine BlkB.drew' ?_|(refine BlkB.new' ?_;first|rfl|(simp;done))|with_reducible refine BlkB.alloc ?_ _));done)
       focus ((repeat (first|with_reducible assumption|with_reducible refine TwoO.drew' ?_|with_reducible refine TwoO.alloc ?_ _));done)
       intro B2 e2 X2 ho2 hg2 hat2
       have T2:=TwoO.app2 (base:=w.heap.size) (W1:=w) (ys:=ck) (A1:=B1) (n1:=qk.length+1) (c1:=e1) (xs:=qk++[y.q]) ?_ ho2 hg2 hat2
       first|(focus ((repeat (first|with_reducible assumption|with_reducible refine TwoO.drew' ?_|with_reducible refine TwoO.alloc ?_ _));done))|(rotate_left;focus ((repeat (first|with_reducible assumption|with_reducible refine TwoO.drew' ?_|with_reducible refine TwoO.alloc ?_ _));done))
       have hs2:=T2.hb
       clear hat2 ho2
       first
        |(have bo2:BlkB X2 wr.heap.size #[.string ⟨y.q.toArray⟩] 24:=BlkB.gr hg2 (fun e=>by have:=HO2.out _ e.symm;omega) ?_
          first|(focus ((repeat (first|with_reducible assumption|with_reducible refine BlkB.drew' ?_|(refine BlkB.new' ?_;first|rfl|(simp;done))|with_reducible refine BlkB.alloc ?_ _));done))|(rotate_left;focus ((repeat (first|with_reducible assumption|with_reducible refine BlkB.drew' ?_|(refine BlkB.new' ?_;first|rfl|(simp;done))|with_reducible refine BlkB.alloc ?_ _));done))
          clear hg2)
        |(have bo2:BlkB X2 (wr.heap.size+1) #[.string ⟨y.q.toArray⟩] 24:=BlkB.gr hg2 (fun e=>by have:=HO2.out _ e.symm;omega) ?_
          first|(focus ((repeat (first|with_reducible assumption|with_reducible refine BlkB.drew' ?_|(refine BlkB.new' ?_;first|rfl|(simp;done))|with_reducible refine BlkB.alloc ?_ _));done))|(rotate_left;focus ((repeat (first|with_reducible assumption|with_reducible refine BlkB.drew' ?_|(refine BlkB.new' ?_;first|rfl|(simp;done))|with_reducible refine BlkB.alloc ?_ _));done))
          clear hg2)
        |clear hg2)
     |fail)
   all_goals
    go_wp2_with fail
    go_roundw
    case rel=>
     refine⟨k+1,B1,e1,B2,e2,by omega,by go_num,by rw[HTQ.out,List.length_append];rfl,by rw[HTC.out,List.length_append];rfl,?_⟩
     show TwoO _ _ _ _ _ _ _ _ _ _ _
     rw[HTQ.out,HTC.out,List.length_append,List.length_append]
     assumption
    case measure=>simp[intOf];omega
  ·obtain rfl:k=n:=by omega
   have HE:=hdz (show ls.take k=ls by rw[List.take_of_length_le (by have:=HNN.out;omega)])
   rw[HE.out] at HT
   have h1:=HT.out.o1;have h2:=HT.out.o2
   have HSL:=hdz (And.intro h1 h2)
   have l1:(ls.map (·.q)).length=k:=by rw[List.length_map];exact HNN.out.symm
   have l2:(ls.map (·.c)).length=k:=by rw[List.length_map];exact HNN.out.symm
   rw[HE.out]
   rw[l1,l2]
   rw[l1,l2] at HSL
   clear h1 h2 l1 l2
   go_wp2_with fail
   first|go_ret2|skip
   rw[HPO.out]
   exact⟨A1,c1,A2,c2,rfl,HSL.out.1,HSL.out.2,HT.out.bl⟩
end
section
open Go.RowKit Go.Shelf
theorem Zgy{ls:List Lot}{k:Nat}{y:Lot}(i:List UInt8)(h:ls[k]?=some y):lotsOf (ls.take (k+1)) i=lotsOf (ls.take k) i++if(y.inst==i)=true then[y] else[]:=by
 obtain⟨hk,rfl⟩:=List.getElem?_eq_some_iff.1 h
 unfold lotsOf
 rw[List.take_succ_eq_append_getElem hk,List.filter_append]
 congr 1
 cases h:(ls[k].inst==i)<;>simp[h]
theorem ZlM(A:Option Addr)(n c:Nat)(ls:List Lot)(i:List UInt8)(w:World)(hs:Lots w w.heap.size A n ls)(hn:n≤1000000):
 Calls Tryz.prog 86 #[.slice A n c,S i] w (RetOwn L7 7 54 w.heap.size w (lotsOf ls i)):=by
 have HPO:=hdz (show RetOwn L7 7 54 w.heap.size w (lotsOf ls i)=fun e w'=>∃A c,e=.returned (.slice A (lotsOf ls i).length c)∧Own L7 7 54 w' w.heap.size (.slice A (lotsOf ls i).length c) (lotsOf ls i)∧Below w.heap.size w w' from rfl)
 generalize RetOwn L7 7 54 w.heap.size w (lotsOf ls i)=post at*
 have HS:=hdz hs
 have HNN:=hdz hs.1
 have H0:=hdz (Own.lit (enc:=L7) (k:=7) (base:=w.heap.size) w #[] 54 [] rfl Zah (Nat.le_refl _) (by simp))
 have HB0:=hdz ((Below.refl w.heap.size w).alloc (Nat.le_refl _) (.cells #[] 54))
 clear hs
 unfold S
 go_enter Tryz.func86,Tryz.ntmps86
 go_wp2_with fail
 generalize w.alloc _=W0 at*
 go_loopw [5,6] (fun s j wr=>∃(k:Nat) (A1:Option Addr) (c1:Nat),k≤n∧j=.int .i64 k∧s=.slice A1 (lotsOf (ls.take k) i).length c1∧Hid (Own L7 7 54 wr w.heap.size (.slice A1 (lotsOf (ls.take k) i).length c1) (lotsOf (ls.take k) i))∧Hid (Below w.heap.size w wr)) (fun _ j _=>n-(intOf j).toNat)
 case atStart=>exact⟨0,_,0,Nat.zero_le _,rfl,rfl,H0,HB0⟩
 case round=>
  clear H0 HB0
  obtain⟨k,A1,c1,hk,rfl,rfl,HO,HB⟩:=hrel
  by_cases hlt:k<n
  ·obtain⟨b,off,y,rfl,hb,hy,d0,d1,d2,d3,d4,d5,d6⟩:=(HS.out.below HB.out).lot hlt
   have HTK:=hdz (Zgy i hy)
   have HLL:=hdz (show(lotsOf (ls.take k) i).length≤k from Nat.le_trans (List.length_filter_le _ _) (by rw[List.length_take];omega))
   generalize lotsOf (ls.take k) i=xs at*
   clear hy
   cases hi:(y.inst==i) with
   |false=>
    rw[hi,if_neg (by decide),List.append_nil] at HTK
    go_wp2_with fail
    go_roundw
    case rel=>exact⟨k+1,A1,c1,by omega,by go_num,by rw[HTK.out],(show Own _ _ _ _ _ _ _ by rw[HTK.out];exact HO.out),HB.out⟩
    case measure=>simp[intOf];omega
   |true=>
    rw[hi,if_pos rfl] at HTK
    have HA2:=hdz (HB.out.alloc HB.out.size (.cells (lotC7 y) 54))
    have HO5:=hdz (HO.out.alloc (.cells (lotC7 y) 54))
    have HL1:=hdz (Zme (show BlkB (wr.alloc (.cells (lotC7 y) 54)) wr.heap.size (lotC7 y) 54 from heap_alloc_new wr _))
    have e7:lotC7 y=#[.string ⟨y.id.toArray⟩,.string ⟨y.inst.toArray⟩,.int .i64 y.acq,.int .i64 y.opn,.string ⟨y.q.toArray⟩,.string ⟨y.c.toArray⟩,.string ⟨y.u.toArray⟩]:=rfl
    rw[e7] at HA2 HO5 HL1
    clear e7
    go_wp2_with (at_builtin;refine Zap _ rfl (.tmp 21) (.tmp 26) _ rfl Zb0 Zah ZbC (base:=w.heap.size) (.slice A1 _ c1) xs rfl HO5.out _ _ 1 1 [y] rfl HL1.out (by have:=HLL.out;omega) HA2.out.size ?_
                 intro A4 c4 w6 ho4 hg4 _)
    go_roundw
    case rel=>
     exact⟨k+1,A4,c4,by omega,by go_num,by rw[HTK.out,List.length_append];rfl,(show Own _ _ _ _ _ _ _ by rw[HTK.out,List.length_append];exact ho4),Zae HA2.out hg4 HA2.out.size (fun g hg=>by
      obtain⟨A',c',hv,_,_,_,h4⟩:=HO5.out.form
      exact(h4 g hg).2.1)⟩
    case measure=>simp[intOf];omega
  ·obtain rfl:k=n:=by omega
   have HE:=hdz (show ls.take k=ls by rw[List.take_of_length_le (by have:=HNN.out;omega)])
   rw[HE.out] at HO
   rw[HE.out]
   go_wp2_with fail
   first|go_ret|skip
   rw[HPO.out]
   exact⟨A1,c1,rfl,HO.out,HB.out⟩
theorem ZeG(A:Option Addr)(n c:Nat)(ls:List Lot)(m:Mp)(w:World)(hp:Env w)(hs:Lots w w.heap.size A n ls)(hl:∀x∈ls,x.Sz 50000)(hn:n≤1000000000)(hcap:n≤c)(hm:m.Max)(hr:m.ratio.Sz 15000)(hsh:m.share.Sz 15000)(hz:m.price.Sz 15000):
 Calls Tryz.prog 33 #[.slice A n c,MpV m] w fun e w'=>e=.returned (.bool (decide (allC ls=0)&&decide (mpC m=0)))∧Below w.heap.size w w':=by
 have HCA:=hdz (fun W (hb:Below w.heap.size w W)=>ZeN A n c ls W (hs.here hb) hl hn hcap)
 have HCM:=hdz (Zhc m hm hr hsh hz)
 have H:=hdz ((Kp.start hp).new w.heap.size rfl #[.string ⟨m.cause.toArray⟩,.int .i64 m.day,.string ⟨m.inst.toArray⟩,.string ⟨m.other.toArray⟩,.string ⟨m.ratio.n.toArray⟩,.string ⟨m.ratio.d.toArray⟩,.string ⟨m.share.n.toArray⟩,.string ⟨m.share.d.toArray⟩,.string ⟨m.price.n.toArray⟩,.string ⟨m.price.d.toArray⟩,.bool m.keep] 28)
 clear hs hl hn hm hr hsh hz hp hcap
 generalize allC ls=ca at*
 generalize mpC m=cm at*
 unfold CmpIPost at HCA
 unfold MpV at HCM ⊢
 rw[ZaM] at HCM ⊢
 by_cases h1:ca=0
 ·subst h1
  by_cases h2:cm=0
  ·subst h2
   go_enter Tryz.func33,Tryz.ntmps33
   go_wp2_with fail
   generalize w.alloc _=W0 at*
   refine(HCA.out _ H.out.bl).mono ?_
   rintro e w1 ⟨rfl,hb⟩
   replace H:=hdz (H.out.here hb)
   clear hb
   obtain⟨x0,x1,x2,x3,x4,x5,x6,x7,x8,x9,x10⟩:=z11 H.out (i:=0) rfl
   go_wp2_with fail
   refine(HCM.out _ H.out.pw).mono ?_
   rintro e w2 ⟨rfl,hb⟩
   go_wp2_with fail
   first|go_ret|skip
   exact⟨rfl,(H.out.here hb).bl⟩
  ·have h3:(cm==0)=false:=by simp[h2]
   have h4:decide (cm=0)=false:=by simp[h2]
   rw[h4]
   clear h2 h4
   go_enter Tryz.func33,Tryz.ntmps33
   go_wp2_with fail
   generalize w.alloc _=W0 at*
   refine(HCA.out _ H.out.bl).mono ?_
   rintro e w1 ⟨rfl,hb⟩
   replace H:=hdz (H.out.here hb)
   clear hb
   obtain⟨x0,x1,x2,x3,x4,x5,x6,x7,x8,x9,x10⟩:=z11 H.out (i:=0) rfl
   go_wp2_with fail
   refine(HCM.out _ H.out.pw).mono ?_
   rintro e w2 ⟨rfl,hb⟩
   go_wp2_with fail
   first|go_ret|skip
   exact⟨rfl,(H.out.here hb).bl⟩
 ·have h3:(ca==0)=false:=by simp[h1]
  have h4:decide (ca=0)=false:=by simp[h1]
  rw[h4,Bool.false_and]
  clear h1 h4
  go_enter Tryz.func33,Tryz.ntmps33
  go_wp2_with fail
  generalize w.alloc _=W0 at*
  refine(HCA.out _ H.out.bl).mono ?_
  rintro e w1 ⟨rfl,hb⟩
  go_wp2_with fail
  first|go_ret|skip
  exact⟨rfl,(H.out.here hb).bl⟩
end
end Go.Proofs.YtpnncoinlopndaaGreatDoor
