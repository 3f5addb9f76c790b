/- . -/
import Derived.Test.YtpnncoinlopndaaGreatDoorQGMp15
import Derived.Test.YtpnncoinlopndaaGreatDoorQGMp10
set_option maxRecDepth 20000
set_option maxHeartbeats 2000000
namespace Go.Proofs.YtpnncoinlopndaaGreatDoor
open Go.Lib renaming hid→jq
section
open Go.RowKit Go.Shelf
attribute [local go_sem ↓] Go.wp_at_zero Go.wp_at_succ
theorem ZgC(l:Lot)(w:World)(hl:l.Sz 50000):Calls Tryz.prog 135 #[XY l] w (Qq (Yx l) w):=by
 have HPO:=jq (show Qq (Yx l) w=fun e w'=>e=.returned (.int .i64 (Yx l))/\Below w.1.size w w' from rfl)
 have HSC:=jq (show Yx l=if !(idB l.id&&QG l.inst) then 23 else if !(XP l.acq&&XP l.opn) then 13 else if l.opn<l.acq then 8
  else if !(QJ l.q&&QJ l.c&&QJ l.u) then 1 else if(decide (val l.q<=0)=true\/decide (val l.c<0)=true\/(l.u≠[]/\l.u≠l.q)) then 2 else 0 by unfold Yx;simp only[decide_eq_true_eq])
 generalize Qq (Yx l) w=post at*;generalize Yx l=res at*;have HB:=jq ((Below.refl w.1.size w).alloc (Nat.le_refl _) (.cells #[.string ⟨l.id.toArray⟩,.string ⟨l.inst.toArray⟩,.int .i64 l.acq,.int .i64 l.opn,.string ⟨l.q.toArray⟩,.string ⟨l.c.toArray⟩,.string ⟨l.u.toArray⟩] 54));have hbk:BlkB (w.alloc (.cells #[.string ⟨l.id.toArray⟩,.string ⟨l.inst.toArray⟩,.int .i64 l.acq,.int .i64 l.opn,.string ⟨l.q.toArray⟩,.string ⟨l.c.toArray⟩,.string ⟨l.u.toArray⟩] 54)) w.1.size #[.string ⟨l.id.toArray⟩,.string ⟨l.inst.toArray⟩,.int .i64 l.acq,.int .i64 l.opn,.string ⟨l.q.toArray⟩,.string ⟨l.c.toArray⟩,.string ⟨l.u.toArray⟩] 54:=heap_alloc_new w _;have c0:=hbk.cell 0 rfl;have c1:=hbk.cell 1 rfl;have c2:=hbk.cell 2 rfl;have c3:=hbk.cell 3 rfl;have c4:=hbk.cell 4 rfl;have c5:=hbk.cell 5 rfl;have c6:=hbk.cell 6 rfl;have HID:=jq (fun W=>Zk3 l.id W (by have:=hl.id;omega));have HNM:=jq (fun W=>JB l.inst W (by have:=hl.inst;unfold maxLen;omega));have HAQ:=jq (fun W=>ZeH l.acq W hl.a1 hl.a2);have HOP:=jq (fun W=>ZeH l.opn W hl.o1 hl.o2);have HCQ:=jq (fun W=>XM l.q W (by have:=hl.q;omega));have HCC:=jq (fun W=>XM l.c W (by have:=hl.c;omega));have HCU:=jq (fun W=>XM l.u W (by have:=hl.u;omega));have HSQ:=jq (fun W=>ZeF l.q W (by have:=hl.q;omega));have HSG:=jq (fun W=>ZeF l.c W (by have:=hl.c;omega));have E1:=jq (Zim (val l.q));have E2:=jq (Ze7 (val l.c));clear hbk hl;generalize Qy (val l.q)=z1 at *; generalize Qy (val l.c)=z2 at*;generalize decide (val l.q<=0)=g1 at *; generalize decide (val l.c<0)=g2 at*;generalize QJ l.q=k1 at *; generalize QJ l.c=k2 at *; generalize QJ l.u=k3 at*;generalize XP l.acq=d1 at *; generalize XP l.opn=d2 at*;generalize idB l.id=n1 at *; generalize QG l.inst=n2 at*;unfold XY;unfold S at*
 go_enter Tryz.func135,Tryz.ntmps135
 go_wp2_with fail
 generalize (w.alloc _)=W0 at*;refine(HID.out _).mono ?_;rintro e w1 ⟨rfl,rfl⟩
 cases n1 with
 |false=>
  go_wp2_with fail
  first|go_ret|skip
  rw[HPO.out];exact⟨Qp (HSC.out.trans (by simp)).symm,HB.out⟩
 |true=>
 go_wp2_with fail
 refine(HNM.out _).mono ?_;rintro e w1 ⟨rfl,rfl⟩
 cases n2 with
 |false=>
  go_wp2_with fail
  first|go_ret|skip
  rw[HPO.out];exact⟨Qp (HSC.out.trans (by simp)).symm,HB.out⟩
 |true=>
 rw[if_neg (by simp)] at HSC;go_wp2_with fail
 refine(HAQ.out _).mono ?_;rintro e w1 ⟨rfl,rfl⟩
 cases d1 with
 |false=>
  go_wp2_with fail
  first|go_ret|skip
  rw[HPO.out];exact⟨Qp (HSC.out.trans (by simp)).symm,HB.out⟩
 |true=>
 go_wp2_with fail
 refine(HOP.out _).mono ?_;rintro e w1 ⟨rfl,rfl⟩
 cases d2 with
 |false=>
  go_wp2_with fail
  first|go_ret|skip
  rw[HPO.out];exact⟨Qp (HSC.out.trans (by simp)).symm,HB.out⟩
 |true=>
 rw[if_neg (by simp)] at HSC
 by_cases h3:l.opn<l.acq
 ·rw[if_pos h3] at HSC;go_wp2_with fail
  first|go_ret|skip
  rw[HPO.out];exact⟨Qp HSC.out.symm,HB.out⟩
 rw[if_neg h3] at HSC;go_wp2_with fail
 refine(HCQ.out _).mono ?_;rintro e w1 ⟨rfl,rfl⟩
 cases k1 with
 |false=>
  go_wp2_with fail
  first|go_ret|skip
  rw[HPO.out];exact⟨Qp (HSC.out.trans (by simp)).symm,HB.out⟩
 |true=>
 go_wp2_with fail
 refine(HCC.out _).mono ?_;rintro e w1 ⟨rfl,rfl⟩
 cases k2 with
 |false=>
  go_wp2_with fail
  first|go_ret|skip
  rw[HPO.out];exact⟨Qp (HSC.out.trans (by simp)).symm,HB.out⟩
 |true=>
 go_wp2_with fail
 refine(HCU.out _).mono ?_;rintro e w1 ⟨rfl,rfl⟩
 cases k3 with
 |false=>
  go_wp2_with fail
  first|go_ret|skip
  rw[HPO.out];exact⟨Qp (HSC.out.trans (by simp)).symm,HB.out⟩
 |true=>
 rw[if_neg (by simp)] at HSC;go_wp2_with fail
 refine(HSQ.out _).mono ?_;rintro e w1 ⟨rfl,rfl⟩
 by_cases hz1:z1<=0
 ·rw[decide_eq_true hz1] at E1;rw[if_pos (.inl E1.out.symm)] at HSC;go_wp2_with fail
  first|go_ret|skip
  rw[HPO.out];exact⟨Qp HSC.out.symm,HB.out⟩
 rw[decide_eq_false hz1] at E1;go_wp2_with fail
 refine(HSG.out _).mono ?_;rintro e w1 ⟨rfl,rfl⟩
 by_cases hz2:z2<0
 ·rw[decide_eq_true hz2] at E2;rw[if_pos (.inr (.inl E2.out.symm))] at HSC;go_wp2_with fail
  first|go_ret|skip
  rw[HPO.out];exact⟨Qp HSC.out.symm,HB.out⟩
 rw[decide_eq_false hz2] at E2
 by_cases hu:l.u=[]
 ·rw[if_neg (by rw[<-E1.out,<-E2.out];simp[hu])] at HSC;have q1:(l.u==[])=true:=by simp[hu]
  have q2:(l.u !=[])=false:=by simp[hu]
  have q3:l.u.isEmpty=true:=by simp[hu]
  clear hu;go_wp2_with fail
  first|go_ret|skip
  rw[HPO.out];exact⟨Qp HSC.out.symm,HB.out⟩
 ·have q1:(l.u==[])=false:=by simp[hu]
  have q2:(l.u !=[])=true:=by simp[hu]
  have q3:l.u.isEmpty=false:=by simp[hu]
  by_cases hq:l.u=l.q
  ·rw[if_neg (by rw[<-E1.out,<-E2.out];simp[hq])] at HSC;have r1:(l.u==l.q)=true:=by simp[hq]
   have r2:(l.u !=l.q)=false:=by simp[hq]
   clear hu hq;go_wp2_with fail
   first|go_ret|skip
   rw[HPO.out];exact⟨Qp HSC.out.symm,HB.out⟩
  ·rw[if_pos (.inr (.inr ⟨hu,hq⟩))] at HSC;have r1:(l.u==l.q)=false:=by simp[hq]
   have r2:(l.u !=l.q)=true:=by simp[hq]
   clear hu hq;go_wp2_with fail
   first|go_ret|skip
   rw[HPO.out];exact⟨Qp HSC.out.symm,HB.out⟩
theorem Zbd(A:Option Addr)(n c:Nat)(ls:List Lot)(id:List UInt8)(w:World)(hs:QU w w.1.size A n ls)(hn:n<=1000000000):
 Calls Tryz.prog 38 #[.slice A n c,S id] w fun e w'=>e=.returned (.tuple #[.int .i64 (max (ZbK ls id) 0),.bool (decide (id∈ls.map (·.id)))])/\Below w.1.size w w':=by
 rw[<-Zff];have HFI:=jq (show ZbK ls id=ZcL (fun x:Lot=>x.id==id) ls from rfl);have HR:=jq hs;generalize ZbK ls id=z at*;clear hs;unfold S;go_enter Tryz.func38,Tryz.ntmps38
 go_wp2_with fail
 go_loopw [6] (fun i wr=>∃j:Nat,j<=n/\i=.int .i64 j/\Hid ((ls.take j).any (fun x:Lot=>x.id==id)=false)/\Below w.1.size w wr) (fun i _=>n-(intOf i).toNat)
 case atStart=>exact⟨0,Nat.zero_le _,rfl,by show _=_;simp,Below.refl _ _⟩
 case round=>
  obtain⟨j,hj,rfl,HN,hb⟩:=hrel
  by_cases hlt:j<n
  ·obtain⟨b,off,r,rfl,hbl,hxj,d0,d1,d2,d3,d4,d5,d6⟩:=(HR.out.below hb).lot hlt
   have HX:=jq hxj;clear hxj d1 d2 d3 d4 d5 d6
   cases hq:(r.id==id) with
   |true=>
    have HQ:=jq hq;have HZ:=jq (show z=(j:Int) by rw[HFI.out];exact Zc8 HX.out HQ.out HN.out);have hz0:0<=z:=by have:=HZ.out;omega
    go_wp2_with fail
    first|go_ret2|skip
    rw[HZ.out];refine⟨?_,hb⟩;rw[show max (j:Int) 0=j by omega,decide_eq_true (show(0:Int)<=j by omega)];rfl
   |false=>
    have HQ:=jq hq;go_wp2_with fail
    go_roundw
    case rel=>exact⟨j+1,by omega,by go_num,ZaH HX.out HN.out HQ.out,hb⟩
    case measure=>simp[intOf];omega
  ·have HZ:=jq (show z= -1 by rw[HFI.out];exact ZaG (by have:=HN.out;rwa [List.take_of_length_le (by have:=HR.out.1;omega)] at this));go_wp2_with fail
   first|go_ret2|skip
   rw[HZ.out];exact⟨rfl,hb⟩
theorem ZdH(A:Option Addr)(n c:Nat)(ls:List Lot)(w:World)(hs:QU w w.1.size A n ls)(hl:∀x∈ls,x.Sz 50000)(hn:n<=1000000000)(hcap:n<=c):Calls Tryz.prog 85 #[.slice A n c] w (Qq (Xl ls) w):=by
 have HPO:=jq (show Qq (Xl ls) w=fun e w'=>e=.returned (.int .i64 (Xl ls))/\Below w.1.size w w' from rfl);have HSC:=jq (show Xl ls=if 1000<ls.length then 4 else VC [] ls from rfl);generalize Qq (Xl ls) w=post at*;generalize Xl ls=res at*;have HS:=jq hs;have hnw:=hs.1;have H0:=jq (Below.refl w.1.size w);have HCK:=jq (fun x hx W=>ZgC x W (hl x hx));rw[<-hnw] at HSC;clear hs hl
 by_cases h1:1000<n
 ·rw[if_pos h1] at HSC;clear hnw hn;go_enter Tryz.func85,Tryz.ntmps85
  go_wp2_with fail
  first|go_ret|skip
  rw[HPO.out,HSC.out];exact⟨rfl,H0.out⟩
 rw[if_neg h1] at HSC;have hn1:¬1000<n:=h1;have HNW:=jq hnw;clear hnw h1;go_enter Tryz.func85,Tryz.ntmps85
 go_wp2_with fail
 go_loopw [3] (fun i wr=>∃(k:Nat) (seen:List (List UInt8)),k<=n/\i=.int .i64 k/\Hid (Below w.1.size w wr)/\Hid (∀y,y∈seen↔y∈(ls.take k).map (·.id))/\Hid (VC seen (ls.drop k)=res)) (fun i _=>n-(intOf i).toNat)
 case atStart=>exact⟨0,[],Nat.zero_le _,rfl,H0,by show ∀_,_;simp,by show _=_;rw[List.drop_zero];exact HSC.out.symm⟩
 case round=>
  clear H0;obtain⟨k,seen,hk,rfl,H,HSE,HQ⟩:=hrel
  by_cases hlt:k<n
  ·obtain⟨b,off,x,rfl,hb,hx,d0,d1,d2,d3,d4,d5,d6⟩:=(HS.out.below H.out).lot hlt
   have HX:=jq hx;clear hx;have HC:=jq (HCK.out x (List.mem_of_getElem? HX.out) wr)
   have HDR:=jq (show VC seen (x::ls.drop (k+1))=res by
    have hx:=HX.out;obtain⟨hk,rfl⟩:=List.getElem?_eq_some_iff.1 hx
    rw[<-List.drop_eq_getElem_cons hk];exact HQ.out)
   clear HQ;have HLC:=jq (show VC seen (x::ls.drop (k+1))=if Yx x≠0 then Yx x else if x.id∈seen then 5 else VC (x.id::seen) (ls.drop (k+1)) from rfl);rw[HDR.out] at HLC;clear HDR;have HFD:=jq (fun W (hW:Below w.1.size w W)=>Zbd (some ⟨b,off,none⟩) k c (ls.take k) x.id W (((HS.out.below hW).more hW.size).take hk) (by omega))
   have HSN:=jq (show ∀y,y∈x.id::seen↔y∈(ls.take (k+1)).map (·.id) by
    intro y;obtain⟨h1,h2⟩:=List.getElem?_eq_some_iff.1 HX.out
    rw[List.take_succ_eq_append_getElem h1,h2,List.map_append,List.mem_append,List.mem_cons,HSE.out y];simp only[List.map_cons,List.map_nil,List.mem_singleton];exact or_comm)
   have HDE:=jq (show decide (x.id∈(ls.take k).map (·.id))=decide (x.id∈seen) by rw[Bool.eq_iff_iff,decide_eq_true_eq,decide_eq_true_eq];exact(HSE.out x.id).symm);rw[HDE.out] at HFD;clear HSE HDE;generalize max (ZbK (ls.take k) x.id) 0=fi at*;unfold XY Qq S at HC;unfold S at HFD;generalize Yx x=z at*;go_wp2_with fail
   refine HC.out.mono ?_;rintro e w1 ⟨rfl,hb1⟩;replace H:=jq (H.out.trans (hb1.mono H.out.size))
   have e0:w1.cell? ⟨b,off+k*7,none⟩=some (.string ⟨x.id.toArray⟩):=by
    obtain⟨b2,off2,x2,hA,_,hx2,e0,_⟩:=(HS.out.below H.out).lot hlt
    injection hA with hA;injection hA with h1 h2;subst h1;subst h2
    rw[HX.out] at hx2;injection hx2 with hx2;subst hx2;exact e0
   clear hb1 d0 d1 d2 d3 d4 d5 d6
   by_cases hz:z=0
   ·have hz0:(z !=0)=false:=by simp[hz]
    rw[if_neg (by simpa using hz)] at HLC;clear hz;have i1:(0:Int)<=(k:Int):=by omega
    have i2:(k:Int)<(n:Int):=by omega
    have i3:(k:Int)<=(c:Int):=by omega
    go_upto_region 9 with (fail)
    cases hin:decide (x.id∈seen) with
    |true=>
     rw[hin] at HFD;rw[if_pos (of_decide_eq_true hin)] at HLC;clear hin
     go_region_held3 (fun w'=>w'.cell? ⟨b,off+k*7,none⟩=some (.string ⟨x.id.toArray⟩)) (go_keep)
      ((go_at_call 38;refine(HFD.out _ H.out.drew).mono ?_;rintro e w2 ⟨rfl,hb2⟩;have e2:w2.cell? ⟨b,off+k*7,none⟩=some (.string ⟨x.id.toArray⟩):=(hb2.cell (p:=⟨b,off+k*7,none⟩) (World.block_lt_of_cell? _ _ e0)).trans e0;have H9:=jq (H.out.drew.trans (hb2.mono H.out.drew.size))))
     all_goals
      go_wp2_with fail
      first|go_ret|skip
      rw[HPO.out,HLC.out];exact⟨rfl,H9.out⟩
    |false=>
     rw[hin] at HFD;rw[if_neg (of_decide_eq_false hin)] at HLC;clear hin
     go_region_held3 (fun w'=>w'.cell? ⟨b,off+k*7,none⟩=some (.string ⟨x.id.toArray⟩)) (go_keep)
      ((go_at_call 38;refine(HFD.out _ H.out.drew).mono ?_;rintro e w2 ⟨rfl,hb2⟩;have e2:w2.cell? ⟨b,off+k*7,none⟩=some (.string ⟨x.id.toArray⟩):=(hb2.cell (p:=⟨b,off+k*7,none⟩) (World.block_lt_of_cell? _ _ e0)).trans e0;have H9:=jq (H.out.drew.trans (hb2.mono H.out.drew.size))))
     all_goals
      go_wp2_with fail
      go_roundw
      case rel=>exact⟨k+1,x.id::seen,by omega,by go_num,H9,HSN.out,HLC.out.symm⟩
      case measure=>simp[intOf];omega
   ·have hz0:(z !=0)=true:=by simp[hz]
    rw[if_pos hz] at HLC;clear hz;go_wp2_with fail
    first|go_ret|skip
    rw[HPO.out,HLC.out];exact⟨rfl,H.out⟩
  ·have HE:=jq (show res=0 by
    have:=HQ.out
    rw[List.drop_eq_nil_of_le (by have:=HNW.out;omega)] at this;exact this.symm)
   go_wp2_with fail
   first|go_ret|skip
   rw[HPO.out,HE.out];exact⟨rfl,H.out⟩
end
end Go.Proofs.YtpnncoinlopndaaGreatDoor
