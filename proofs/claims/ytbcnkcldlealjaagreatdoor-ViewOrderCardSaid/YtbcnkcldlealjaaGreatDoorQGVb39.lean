/- Vcm, Vis. -/
import Derived.Test.YtbcnkcldlealjaaGreatDoorQGVb35
import Derived.Test.YtbcnkcldlealjaaGreatDoorQGVb40
import Derived.Laws.Cover1
import Derived.Test.YtbcnkcldlealjaaGreatDoorSht
set_option maxRecDepth 20000
namespace Go.Proofs.YtbcnkcldlealjaaGreatDoor
open Go.Lib renaming hid→jq
open Go.RowKit Go.Shelf
section
theorem Zdq(x:Int)(w:World):Calls Tryz.prog 120 #[.int .i64 x] w fun e w'=>e=.returned (.bool false)/\w'=w:=by
 go_enter Tryz.func120,Tryz.ntmps120
 go_wp2
 go_ret
 exact⟨by simp,rfl⟩
theorem Zdr(x:Int)(w:World):Calls Tryz.prog 121 #[.int .i64 x] w fun e w'=>e=.returned (.bool false)/\w'=w:=by
 go_enter Tryz.func121,Tryz.ntmps121
 go_wp2
 go_ret
 exact⟨by simp,rfl⟩
theorem Zds(s:List UInt8)(w:World):Calls Tryz.prog 108 #[.string ⟨s.toArray⟩] w fun e w'=>e=.returned (.bool false)/\w'=w:=by
 go_enter Tryz.func108,Tryz.ntmps108
 go_wp2
 go_ret
 exact⟨by simp,rfl⟩
theorem Zhs(x y:Int)(w:World):Calls Tryz.prog 83 #[.int .i64 x,.int .i64 y] w fun e w'=>e=.returned (.int .i64 (Yp x y))/\w'=w:=by
 have H1:=jq (Zdq x w);have H2:=jq (Zdq y w);have HR:=jq (show Yp x y=if x<y then-1 else if y<x then 1 else 0 from rfl);generalize Yp x y=res at*
 by_cases h1:x<y
 ·have hq:=HR.out;rw[if_pos h1] at hq;have HQ:=jq hq;clear hq HR;go_enter Tryz.func83,Tryz.ntmps83
  go_wp2_with (go_at_call 120;first|(refine H1.out.mono ?_;rintro e v ⟨rfl,rfl⟩)|(refine H2.out.mono ?_;rintro e v ⟨rfl,rfl⟩))
  first|go_ret|skip
  exact⟨Qb HQ.out.symm,rfl⟩
 ·have hq:=HR.out;rw[if_neg h1] at hq
  by_cases h2:y<x
  ·rw[if_pos h2] at hq;have HQ:=jq hq;clear hq HR;go_enter Tryz.func83,Tryz.ntmps83
   go_wp2_with (go_at_call 120;first|(refine H1.out.mono ?_;rintro e v ⟨rfl,rfl⟩)|(refine H2.out.mono ?_;rintro e v ⟨rfl,rfl⟩))
   first|go_ret|skip
   exact⟨Qb HQ.out.symm,rfl⟩
  ·rw[if_neg h2] at hq;have HQ:=jq hq;clear hq HR;go_enter Tryz.func83,Tryz.ntmps83
   go_wp2_with (go_at_call 120;first|(refine H1.out.mono ?_;rintro e v ⟨rfl,rfl⟩)|(refine H2.out.mono ?_;rintro e v ⟨rfl,rfl⟩))
   first|go_ret|skip
   exact⟨Qb HQ.out.symm,rfl⟩
theorem Zht(x y:Int)(w:World):Calls Tryz.prog 84 #[.int .i64 x,.int .i64 y] w fun e w'=>e=.returned (.int .i64 (Yp x y))/\w'=w:=by
 have H1:=jq (Zdr x w);have H2:=jq (Zdr y w);have HR:=jq (show Yp x y=if x<y then-1 else if y<x then 1 else 0 from rfl);generalize Yp x y=res at*
 by_cases h1:x<y
 ·have hq:=HR.out;rw[if_pos h1] at hq;have HQ:=jq hq;clear hq HR;go_enter Tryz.func84,Tryz.ntmps84
  go_wp2_with (go_at_call 121;first|(refine H1.out.mono ?_;rintro e v ⟨rfl,rfl⟩)|(refine H2.out.mono ?_;rintro e v ⟨rfl,rfl⟩))
  first|go_ret|skip
  exact⟨Qb HQ.out.symm,rfl⟩
 ·have hq:=HR.out;rw[if_neg h1] at hq
  by_cases h2:y<x
  ·rw[if_pos h2] at hq;have HQ:=jq hq;clear hq HR;go_enter Tryz.func84,Tryz.ntmps84
   go_wp2_with (go_at_call 121;first|(refine H1.out.mono ?_;rintro e v ⟨rfl,rfl⟩)|(refine H2.out.mono ?_;rintro e v ⟨rfl,rfl⟩))
   first|go_ret|skip
   exact⟨Qb HQ.out.symm,rfl⟩
  ·rw[if_neg h2] at hq;have HQ:=jq hq;clear hq HR;go_enter Tryz.func84,Tryz.ntmps84
   go_wp2_with (go_at_call 121;first|(refine H1.out.mono ?_;rintro e v ⟨rfl,rfl⟩)|(refine H2.out.mono ?_;rintro e v ⟨rfl,rfl⟩))
   first|go_ret|skip
   exact⟨Qb HQ.out.symm,rfl⟩
theorem YX(s:List UInt8):(⟨s.toArray⟩:ByteArray).toList=s:=by rw[Lib.toList_data]
theorem Zdt(s t:List UInt8):Op.bytesLess s t=false↔¬s<t:=by rw[Bool.eq_false_iff,Ne,blt]
theorem Zhu(s t:List UInt8)(w:World):Calls Tryz.prog 85 #[.string ⟨s.toArray⟩,.string ⟨t.toArray⟩] w fun e w'=>e=.returned (.int .i64 (ZcC s t))/\w'=w:=by
 have H1:=jq (Zds s w);have H2:=jq (Zds t w);have HR:=jq (show ZcC s t=if Op.bytesLess s t=true then-1 else if Op.bytesLess t s=true then 1 else 0 from rfl);generalize ZcC s t=res at*
 rcases VH s t with h|h|h
 ·have hb:Op.bytesLess s t=true:=(blt s t).2 h;have hq:=HR.out;rw[if_pos hb] at hq;have HQ:=jq hq;have hb2:Op.bytesLess (⟨s.toArray⟩:ByteArray).toList (⟨t.toArray⟩:ByteArray).toList=true:=by rw[YX,YX];exact hb
  clear hq HR h;go_enter Tryz.func85,Tryz.ntmps85
  go_wp2_with (go_at_call 108;first|(refine H1.out.mono ?_;rintro e v ⟨rfl,rfl⟩)|(refine H2.out.mono ?_;rintro e v ⟨rfl,rfl⟩))
  first|go_ret|skip
  exact⟨Qb HQ.out.symm,rfl⟩
 ·subst h;have hb:Op.bytesLess s s=false:=(Zdt s s).2 (List.lt_irrefl s);have hq:=HR.out;rw[if_neg (by rw[hb];decide),if_neg (by rw[hb];decide)] at hq;have HQ:=jq hq;have hb2:Op.bytesLess (⟨s.toArray⟩:ByteArray).toList (⟨s.toArray⟩:ByteArray).toList=false:=by rw[YX];exact hb
  clear hq HR;go_enter Tryz.func85,Tryz.ntmps85
  go_wp2_with (go_at_call 108;first|(refine H1.out.mono ?_;rintro e v ⟨rfl,rfl⟩)|(refine H2.out.mono ?_;rintro e v ⟨rfl,rfl⟩))
  first|go_ret|skip
  exact⟨Qb HQ.out.symm,rfl⟩
 ·have hb:Op.bytesLess s t=false:=(Zdt s t).2 (Zdn h);have hc:Op.bytesLess t s=true:=(blt t s).2 h;have hq:=HR.out;rw[if_neg (by rw[hb];decide),if_pos hc] at hq;have HQ:=jq hq;have hb2:Op.bytesLess (⟨s.toArray⟩:ByteArray).toList (⟨t.toArray⟩:ByteArray).toList=false:=by rw[YX,YX];exact hb
  have hne:(s==t)=false:=by rw[beq_eq_false_iff_ne];rintro rfl;exact List.lt_irrefl s h
  have hne2:((⟨s.toArray⟩:ByteArray).toList==(⟨t.toArray⟩:ByteArray).toList)=false:=by rw[YX,YX];exact hne
  clear hq HR h;go_enter Tryz.func85,Tryz.ntmps85
  go_wp2_with (go_at_call 108;first|(refine H1.out.mono ?_;rintro e v ⟨rfl,rfl⟩)|(refine H2.out.mono ?_;rintro e v ⟨rfl,rfl⟩))
  first|go_ret|skip
  exact⟨Qb HQ.out.symm,rfl⟩
def or3(a b c:Int):Int:=if a≠0 then a else if b≠0 then b else c
theorem ZiZ(a b c:Int)(bl:Nat)(w:World)(h0:w.cell? ⟨bl,0,none⟩=some (.int .i64 a))(h1:w.cell? ⟨bl,1,none⟩=some (.int .i64 b))(h2:w.cell? ⟨bl,2,none⟩=some (.int .i64 c)):
 Calls Tryz.prog 82 #[.slice (some ⟨bl,0,none⟩) 3 3] w fun e w'=>e=.returned (.int .i64 (or3 a b c))/\Below w.1.size w w':=by
 have HR:=jq (show ∀r:Int,(a≠0->r=a)->(a=0->b≠0->r=b)->(a=0->b=0->r=c)->or3 a b c=r by
  intro r h1 h2 h3;unfold or3
  by_cases h:a=0
  ·rw[if_neg (by simp[h])]
   by_cases h':b=0
   ·rw[if_neg (by simp[h']),h3 h h']
   ·rw[if_pos h',h2 h h']
  ·rw[if_pos h,h1 h])
 generalize or3 a b c=res at*;have HB:=jq (Below.refl w.1.size w);go_enter Tryz.func82,Tryz.ntmps82
 go_wp2_with fail
 go_loop [8] (fun i=>∃k:Nat,k<=3/\i=.int .i64 k/\Hid (1<=k->a=0)/\Hid (2<=k->b=0)/\Hid (3<=k->c=0)) (fun i=>3-(intOf i).toNat)
 case atStart=>exact⟨0,by omega,rfl,fun h=>by omega,fun h=>by omega,fun h=>by omega⟩
 case round=>
  obtain⟨k,hk,rfl,HA,HBB,HCC⟩:=hrel
  by_cases hlt:k<3
  ·obtain rfl|rfl|rfl:k=0\/k=1\/k=2:=by omega
   ·by_cases ha:a=0
    ·have hx:(a !=0)=false:=by simp[ha]
     have HA0:=jq ha;clear ha HA HBB HCC hk hlt
     go_wp2
     go_round
     case rel=>exact⟨1,by omega,by go_num,fun _=>HA0.out,fun h=>by omega,fun h=>by omega⟩
     case measure=>simp[intOf]
    ·have hx:(a !=0)=true:=by simp[ha]
     have HE:=jq (HR.out a (fun _=>rfl) (fun h=>absurd h ha) (fun h=>absurd h ha));clear ha HA HBB HCC hk hlt
     go_wp2
     go_ret
     exact⟨Qb HE.out.symm,HB.out⟩
   ·have HA0:=jq (HA.out (by omega))
    by_cases hb:b=0
    ·have hx:(b !=0)=false:=by simp[hb]
     have HB0:=jq hb;clear hb HA HBB HCC hk hlt
     go_wp2
     go_round
     case rel=>exact⟨2,by omega,by go_num,fun _=>HA0.out,fun _=>HB0.out,fun h=>by omega⟩
     case measure=>simp[intOf]
    ·have hx:(b !=0)=true:=by simp[hb]
     have HE:=jq (HR.out b (fun h=>absurd HA0.out h) (fun _ _=>rfl) (fun _ h=>absurd h hb));clear hb HA HBB HCC hk hlt
     go_wp2
     go_ret
     exact⟨Qb HE.out.symm,HB.out⟩
   ·have HA0:=jq (HA.out (by omega));have HB0:=jq (HBB.out (by omega))
    by_cases hc:c=0
    ·have hx:(c !=0)=false:=by simp[hc]
     have HC0:=jq hc;clear hc HA HBB HCC hk hlt
     go_wp2
     go_round
     case rel=>exact⟨3,by omega,by go_num,fun _=>HA0.out,fun _=>HB0.out,fun _=>HC0.out⟩
     case measure=>simp[intOf]
    ·have hx:(c !=0)=true:=by simp[hc]
     have HE:=jq (HR.out c (fun h=>absurd HA0.out h) (fun _ h=>absurd HB0.out h) (fun _ _=>rfl));clear hc HA HBB HCC hk hlt
     go_wp2
     go_ret
     exact⟨Qb HE.out.symm,HB.out⟩
  ·obtain rfl:k=3:=by omega
   have HE:=jq (HR.out 0 (fun h=>absurd (HA.out (by omega)) h) (fun _ h=>absurd (HBB.out (by omega)) h) (fun _ _=>(HCC.out (by omega)).symm));clear HA HBB HCC hk hlt
   go_wp2
   go_ret
   exact⟨Qb HE.out.symm,HB.out⟩
theorem Zi0(a b c:Int)(w:World):Calls Tryz.prog 82 #[.slice (some ⟨w.1.size,0,none⟩) 3 3] (w.alloc (.cells #[.int .i64 a,.int .i64 b,.int .i64 c] 3)) fun e w'=>e=.returned (.int .i64 (or3 a b c))/\Below w.1.size w w':=by
 have hb:=heap_alloc_new w (.cells #[.int .i64 a,.int .i64 b,.int .i64 c] 3);refine(ZiZ a b c w.1.size _ (cell_of_row _ _ 0 _ _ _ hb) (cell_of_row _ _ 1 _ _ _ hb) (cell_of_row _ _ 2 _ _ _ hb)).mono ?_;rintro e w' ⟨he,h⟩;exact⟨he,((Below.refl w.1.size w).alloc (Nat.le_refl _) _).trans (h.mono (by simp))⟩
end
section
theorem ZcQ(A:Option Addr)(c:Nat)(ks:List (List UInt8))(w:World)(hs:ZiB w w.1.size A ks.length ks)(hp:ks.Pairwise (·< ·))(hn:ks.length<=1000000):
 Calls Tryz.prog 38 #[.slice A ks.length c] w fun e w'=>e=.returned (.bool true)/\Below w.1.size w w':=by
 by_cases h0:ks.length=0
 ·rw[h0];refine(AnyO.slices_IsSorted_string_none Tryz.isSortedStr A c w).mono ?_;rintro e w' ⟨rfl,rfl⟩;exact⟨rfl,Below.refl _ _⟩
 obtain⟨b,off,rfl,_,hc⟩:=hs.2 (by omega)
 obtain⟨d,hd⟩:∃d:Array ByteArray,d=(ks.map fun s=>(⟨s.toArray⟩:ByteArray)).toArray:=⟨_,rfl⟩
 have hsz:d.size=ks.length:=by rw[hd];simp
 have hget:∀i (hi:i<ks.length),d[i]! =⟨ks[i].toArray⟩:=fun i hi=>by
  rw[getElem!_pos d i (by omega)];simp[hd]
 rw[<-hsz];refine(AnyO.slices_IsSorted_string Tryz.isSortedStr b off c d w (fun i hi=> ?_) (by omega)).mono ?_
 ·rw[hget i (by omega)];have h:=hc i ks[i] (List.getElem?_eq_getElem (by omega)) 0 _ rfl;rw[Nat.mul_one,Nat.add_zero] at h;exact h
 ·rintro e w' ⟨rfl,q,rfl⟩;refine⟨?_,bdN (Below.refl _ _) q⟩;rw[(Lib.downOK_iff _ _ _).2];intro i hi;rw[hget (i+1) (by omega),hget i (by omega)];have h:=List.pairwise_iff_getElem.1 hp i (i+1) (by omega) (by omega) (by omega);simp only[decide_eq_false_iff_not];exact Zdn h
end
end Go.Proofs.YtbcnkcldlealjaaGreatDoor
