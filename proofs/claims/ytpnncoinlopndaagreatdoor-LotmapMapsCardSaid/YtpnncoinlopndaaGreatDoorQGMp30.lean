/- Rp5. -/
import Derived.Test.YtpnncoinlopndaaGreatDoorQGMp29
import Derived.Test.YtpnncoinlopndaaGreatDoorQGMp42
namespace Go.Proofs.YtpnncoinlopndaaGreatDoor
section
open Go.RowKit Go.Shelf
def PSt(t:Int)(ws:List Int)(j:Nat):List Int:=ZdT (QA t ws) ((QV (QI t ws)).take j)
def RSt(t:Int)(ws:List Int)(j:Nat):List Rat:=Zbe ws.sum (QI t ws) ((QV (QI t ws)).take j)
theorem ZiE(t:Int)(ws:List Int)(j:Nat):(PSt t ws j).length=ws.length:=by simp[PSt,ZdT,QA]
theorem ZiF(t:Int)(ws:List Int)(j:Nat):(RSt t ws j).length=ws.length:=by simp[RSt,Zbe,QI]
theorem Zlk(t:Int)(ws:List Int):PSt t ws 0=QA t ws:=by
 unfold PSt ZdT;refine List.ext_getElem? fun i=> ?_
 simp
theorem Zll(t:Int)(ws:List Int):RSt t ws 0=(QI t ws).map (fun r=>Rat.divInt r ws.sum):=by
 unfold RSt Zbe;refine List.ext_getElem? fun i=> ?_
 simp
theorem Zlm(t:Int)(ws:List Int):PSt t ws (Xs t ws).toNat=Xz t ws:=rfl
theorem Zmt{t:Int}{ws:List Int}(hS:0<ws.sum){j:Nat}(hj:j<ws.length):ZbU (RSt t ws j)<ws.length:=by
 have hl:(QI t ws).length=ws.length:=by simp[QI]
 unfold RSt;rw[ZdS hS (XX t hS) (by omega)];have:=Jr.1 (List.getElem_mem (l:=QV (QI t ws)) (n:=j) (by rw[Xt];omega))
 omega
theorem Zmu{t:Int}{ws:List Int}(hS:0<ws.sum){j:Nat}(hj:j<ws.length):
 (PSt t ws j).set (ZbU (RSt t ws j)) ((PSt t ws j).getD (ZbU (RSt t ws j)) 0+1)=PSt t ws (j+1)/\(RSt t ws j).set (ZbU (RSt t ws j)) ((RSt t ws j).getD (ZbU (RSt t ws j)) 0-1)=RSt t ws (j+1):=by
 have hl:(QI t ws).length=ws.length:=by simp[QI]
 have hb:(QA t ws).length=(QI t ws).length:=by simp[QI,QA]
 unfold RSt PSt;rw[ZdS hS (XX t hS) (by omega)];exact⟨Zjx hb (by omega) rfl,Zjw (by omega) rfl⟩
theorem ZiG{t:Int}{ws:List Int}(hS:0<ws.sum):(Xs t ws).toNat<=ws.length:=by
 have h1:=YO t hS;have h2:(QI t ws).countP (fun r=>decide (0<r))<=(QI t ws).length:=List.countP_le_length;have hl:(QI t ws).length=ws.length:=by simp[QI]
 omega
theorem ZaA{t:Int}{ws:List Int}(h0:0<=t)(hw:∀w∈ws,0<=w)(hS:0<ws.sum):∀b∈QA t ws,0<=b/\b<=t:=by
 intro b hb;obtain⟨w,hwm,rfl⟩:=List.mem_map.1 hb
 have h1:=hw w hwm;refine⟨Int.fdiv_nonneg (Int.mul_nonneg h0 h1) (Int.le_of_lt hS),?_⟩;have h2:=ZaF hw hwm;have h3:=Int.mul_fdiv_add_fmod (t*w) ws.sum;have h4:=Int.fmod_nonneg_of_pos (t*w) hS;have h5:t*w<=t*ws.sum:=Int.mul_le_mul_of_nonneg_left h2 h0;rw[Int.mul_comm t ws.sum] at h5;exact Int.le_of_mul_le_mul_left (by omega:ws.sum*(t*w).fdiv ws.sum<=ws.sum*t) hS
theorem Zm6{t:Int}{ws:List Int}(h0:0<=t)(hw:∀w∈ws,0<=w)(hS:0<ws.sum)(j i:Nat):0<=(PSt t ws j).getD i 0/\(PSt t ws j).getD i 0<=t+1:=by
 by_cases hi:i<(QA t ws).length
 ·have hb:=ZaA h0 hw hS _ (List.getElem_mem hi)
  have e:(PSt t ws j).getD i 0=if i∈(QV (QI t ws)).take j then(QA t ws)[i]+1 else(QA t ws)[i]:=by
   unfold PSt ZdT;rw[List.getD_eq_getElem?_getD,List.getElem?_mapIdx,List.getElem?_eq_getElem hi];rfl
  rw[e]
  split<;>omega
 ·have e:(PSt t ws j).getD i 0=0:=by
   rw[List.getD_eq_getElem?_getD,List.getElem?_eq_none]
   ·rfl
   ·rw[ZiE];simp only[QA,List.length_map] at hi;omega
  omega
theorem ZgP(r:Int){S:Int}(hS:0<S):Rat.divInt r S-1=Rat.divInt (r-S) S:=by
 rw[show(1:Rat)=Rat.divInt 1 1 from rfl,Rat.divInt_sub_divInt _ _ (by omega) (by omega)]
 congr 1<;>omega
theorem Zm7{t:Int}{ws:List Int}{L:Nat}(hS:0<ws.sum)(hL:ws.sum.natAbs<10^L)(hL1:1<=L)(j i:Nat):RB L ((RSt t ws j).getD i 0):=by
 by_cases hi:i<(QI t ws).length
 ·have hb:=XX t hS _ (List.getElem_mem hi);have e:(QI t ws).getD i 0=(QI t ws)[i]:=by rw[List.getD_eq_getElem?_getD,List.getElem?_eq_getElem hi];rfl
  have hg:=Ve (S:=ws.sum) (rs:=QI t ws) (T:=(QV (QI t ws)).take j) hi;unfold RSt;rw[hg,e]
  split
  ·rw[ZgP _ hS];exact RB.divInt (by omega) hL (by omega)
  ·exact RB.divInt (by omega) hL (by omega)
 ·have e:(RSt t ws j).getD i 0=0:=by
   rw[List.getD_eq_getElem?_getD,List.getElem?_eq_none]
   ·rfl
   ·rw[ZiF];simp only[QI,List.length_map] at hi;omega
  rw[e];have:1<10^L:=Nat.one_lt_pow (by omega) (by omega)
  exact⟨by show 0<_;omega,by show 1<_;omega⟩
theorem Zln(t w:Int){S:Int}(hS:0<S):QK (Rat.divInt (t*w) S)=(t*w).fdiv S/\Rat.divInt (t*w) S-((QK (Rat.divInt (t*w) S):Int):Rat)=Rat.divInt ((t*w).fmod S) S:=by
 have h1:QK (Rat.divInt (t*w) S)=(t*w).fdiv S:=(Zbp _ _ (by omega)).symm;refine⟨h1,?_⟩;rw[h1,<-Xw ((t*w).fdiv S),Rat.divInt_sub_divInt _ _ (by omega) (by omega)];have h3:=Int.mul_fdiv_add_fmod (t*w) S
 congr 1
 ·rw[Int.mul_one,Int.mul_comm _ S];omega
 ·omega
theorem Zjy{ws:List Int}(hw:∀w∈ws,0<=w)(hS:0<ws.sum):Xz 0 ws=ws.map (fun _=>0):=by
 refine List.ext_getElem? fun i=> ?_
 by_cases hi:i<ws.length
 ·have hp:i<(Xz 0 ws).length:=by rw[VP];exact hi
  have hb:=Zak (Int.le_refl 0) hw hS (List.getElem?_eq_getElem hp) (List.getElem?_eq_getElem hi);have hs:=ZfT 0 hS
  have hz:=Zbw (l:=Xz 0 ws) (by
   intro x hx;obtain⟨k,hk⟩:=List.getElem?_of_mem hx
   have hk2:=(List.getElem?_eq_some_iff.1 hk).1;rw[VP] at hk2;exact(Zak (Int.le_refl 0) hw hS hk (List.getElem?_eq_getElem hk2)).1) hs
  rw[List.getElem?_eq_getElem hp,hz _ (List.getElem_mem hp)];simp[hi]
 ·rw[List.getElem?_eq_none (by rw[VP];omega),List.getElem?_eq_none (by simp;omega)]
end
end Go.Proofs.YtpnncoinlopndaaGreatDoor
