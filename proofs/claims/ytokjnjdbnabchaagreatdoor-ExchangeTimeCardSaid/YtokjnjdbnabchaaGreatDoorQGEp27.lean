/- Vst, Vcm. -/
import Derived.Test.YtokjnjdbnabchaaGreatDoorQGEp38
import Derived.Test.YtokjnjdbnabchaaGreatDoorQGEp31
import Derived.Test.YtokjnjdbnabchaaGreatDoorSht
import Derived.Sort.OwnSorted
import Derived.Laws.Cover1
set_option maxRecDepth 20000
namespace Go.Proofs.YtokjnjdbnabchaaGreatDoor
open Go.Lib renaming hid→jq
section
open Go.RowKit Go.Shelf Go.Sort
theorem ZdX(xs:List (List UInt8)):xs.flatMap S1=xs.map encStr:=by
 induction xs with
 |nil=>rfl
 |cons a xs ih=>rw[List.flatMap_cons,ih];rfl
theorem Zae{w:World}{base g n c:Nat}{e:TypeId}{xs:List (List UInt8)}(h:Own S1 1 e w base (.slice (some ⟨g,0,none⟩) n c) xs):Holds encStr w g 0 xs.toArray/\
 ∀(q:Nat) (os:Array Obj) (ts:List (List UInt8)),ts.length=xs.length->Own S1 1 e (grow (putRow encStr (Sort.ahead w q) g 0 ts.toArray) os) base (.slice (some ⟨g,0,none⟩) n c) ts:=by
 have hn:=h.facts.1;subst hn
 rcases h.2 with ⟨h0,_⟩|⟨g',cap,cur,hv,hb,hg,hnc,hcm,hcs,ht⟩
 ·cases h0
 ·injection hv with a1 a2 a3;injection a1 with a1;injection a1 with a1;subst a1;subst a3
  rw[ZdX,Nat.mul_one] at ht;refine⟨holds_of_block hg ht,fun q os ts hl=> ?_⟩
  show World.ownsRow _ _ _ _ _ ts.length (ts.flatMap S1)
  rw[ZdX,hl];exact ownsRow_sorted hl hb hg hnc hcm hcs
theorem Zcv(base:Nat)(A:Option Addr)(c:Nat)(xs:List (List UInt8))(w:World)(ho:Own S1 1 9 w base (.slice A xs.length c) xs)(hl:xs.length<=1000000000):
 Calls Tryz.prog 106 #[.slice A xs.length c] w fun e w'=>e=.returned (.tuple #[])/\Own S1 1 9 w' base (.slice A (Xg xs).length c) (Xg xs)/\w.grownBy w' (Value.slice A xs.length c).ownBlock:=by
 obtain⟨_,_,_,⟨rfl,rfl,rfl⟩|⟨g,rfl,hg1,hg2⟩⟩:=ho.facts
 ·refine(AnyM.slices_Sort_string_none Tryz.sortStr none 0 w).mono ?_;rintro e w' ⟨rfl,rfl⟩;exact⟨rfl,by rw[show Xg []=[] by simp[Xg]];exact ho,World.grownBy.refl _ _⟩
 ·obtain⟨hH,hS⟩:=Zae ho
  refine(AnyM.slices_Sort_string Tryz.sortStr g 0 c xs w hH hg2 (by omega)).mono ?_;rintro e w' ⟨rfl,n,os,rfl⟩;refine⟨rfl,?_,grownBy_sorted _⟩;rw[YV];exact hS n os (Xg xs) (YV xs)
theorem Zcw(base:Nat)(A:Option Addr)(c:Nat)(zs:List (List UInt8))(w:World)(ho:Own S1 1 9 w base (.slice A zs.length c) zs)(hl:zs.length<=1000000000):
 Calls Tryz.prog 74 #[.slice A zs.length c] w fun e w'=>e=.returned (.slice A (Lib.compact zs).length c)/\Own S1 1 9 w' base (.slice A (Lib.compact zs).length c) (Lib.compact zs)/\w.grownBy w' (Value.slice A zs.length c).ownBlock:=by
 obtain⟨_,hc,_,⟨rfl,rfl,rfl⟩|⟨g,rfl,hg1,hg2⟩⟩:=ho.facts
 ·refine(AnyG.slices_Compact_string_empty Tryz.compactStr none 0 w).mono ?_;rintro e w' ⟨rfl,rfl⟩;have h0:Lib.compact ([]:List (List UInt8))=[]:=by simp[Lib.compact,Lib.compactUpTo]
  rw[h0];exact⟨rfl,ho,World.grownBy.refl _ _⟩
 ·obtain⟨hH,hS⟩:=Zae ho
  refine(AnyG.slices_Compact_string Tryz.compactStr g 0 c zs w hH (by omega) hc).mono ?_;rintro e w' ⟨rfl,q,rfl⟩;have hcl:=ZbJ zs;have hgr:=grownBy_sorted (w:=w) (g:=g) (n:=q) (os:=#[]) (Lib.compact zs++List.replicate (zs.length-(Lib.compact zs).length) []).toArray;have ho2:=hS q #[] (Lib.compact zs++List.replicate (zs.length-(Lib.compact zs).length) []) (by rw[List.length_append,List.length_replicate];omega);rw[grow_empty] at hgr ho2;have ho3:=ho2.shrink XY (m:=(Lib.compact zs).length) (by rw[List.length_append];omega);rw[List.take_left] at ho3;exact⟨rfl,ho3,hgr⟩
end
section
open Go.RowKit Go.Shelf
theorem ZcG(x:Int)(w:World):Calls Tryz.prog 211 #[.int .i64 x] w fun e w'=>e=.returned (.bool false)/\w'=w:=by
 go_enter Tryz.func211,Tryz.ntmps211
 go_wp2
 go_ret
 exact⟨by simp,rfl⟩
theorem ZcH(x:Int)(w:World):Calls Tryz.prog 212 #[.int .i64 x] w fun e w'=>e=.returned (.bool false)/\w'=w:=by
 go_enter Tryz.func212,Tryz.ntmps212
 go_wp2
 go_ret
 exact⟨by simp,rfl⟩
theorem ZcI(s:List UInt8)(w:World):Calls Tryz.prog 213 #[.string ⟨s.toArray⟩] w fun e w'=>e=.returned (.bool false)/\w'=w:=by
 go_enter Tryz.func213,Tryz.ntmps213
 go_wp2
 go_ret
 exact⟨by simp,rfl⟩
theorem Zgp(x y:Int)(w:World):Calls Tryz.prog 153 #[.int .i64 x,.int .i64 y] w fun e w'=>e=.returned (.int .i64 (XM x y))/\w'=w:=by
 have H1:=jq (ZcG x w);have H2:=jq (ZcG y w);have HR:=jq (show XM x y=if x<y then-1 else if y<x then 1 else 0 from rfl);generalize XM x y=res at*
 by_cases h1:x<y
 ·have hq:=HR.out;rw[if_pos h1] at hq;have HQ:=jq hq;clear hq HR;go_enter Tryz.func153,Tryz.ntmps153
  go_wp2_with (go_at_call 211;first|(refine H1.out.mono ?_;rintro e v ⟨rfl,rfl⟩)|(refine H2.out.mono ?_;rintro e v ⟨rfl,rfl⟩))
  first|go_ret|skip
  exact⟨Qa HQ.out.symm,rfl⟩
 ·have hq:=HR.out;rw[if_neg h1] at hq
  by_cases h2:y<x
  ·rw[if_pos h2] at hq;have HQ:=jq hq;clear hq HR;go_enter Tryz.func153,Tryz.ntmps153
   go_wp2_with (go_at_call 211;first|(refine H1.out.mono ?_;rintro e v ⟨rfl,rfl⟩)|(refine H2.out.mono ?_;rintro e v ⟨rfl,rfl⟩))
   first|go_ret|skip
   exact⟨Qa HQ.out.symm,rfl⟩
  ·rw[if_neg h2] at hq;have HQ:=jq hq;clear hq HR;go_enter Tryz.func153,Tryz.ntmps153
   go_wp2_with (go_at_call 211;first|(refine H1.out.mono ?_;rintro e v ⟨rfl,rfl⟩)|(refine H2.out.mono ?_;rintro e v ⟨rfl,rfl⟩))
   first|go_ret|skip
   exact⟨Qa HQ.out.symm,rfl⟩
theorem Zgq(x y:Int)(w:World):Calls Tryz.prog 154 #[.int .i64 x,.int .i64 y] w fun e w'=>e=.returned (.int .i64 (XM x y))/\w'=w:=by
 have H1:=jq (ZcH x w);have H2:=jq (ZcH y w);have HR:=jq (show XM x y=if x<y then-1 else if y<x then 1 else 0 from rfl);generalize XM x y=res at*
 by_cases h1:x<y
 ·have hq:=HR.out;rw[if_pos h1] at hq;have HQ:=jq hq;clear hq HR;go_enter Tryz.func154,Tryz.ntmps154
  go_wp2_with (go_at_call 212;first|(refine H1.out.mono ?_;rintro e v ⟨rfl,rfl⟩)|(refine H2.out.mono ?_;rintro e v ⟨rfl,rfl⟩))
  first|go_ret|skip
  exact⟨Qa HQ.out.symm,rfl⟩
 ·have hq:=HR.out;rw[if_neg h1] at hq
  by_cases h2:y<x
  ·rw[if_pos h2] at hq;have HQ:=jq hq;clear hq HR;go_enter Tryz.func154,Tryz.ntmps154
   go_wp2_with (go_at_call 212;first|(refine H1.out.mono ?_;rintro e v ⟨rfl,rfl⟩)|(refine H2.out.mono ?_;rintro e v ⟨rfl,rfl⟩))
   first|go_ret|skip
   exact⟨Qa HQ.out.symm,rfl⟩
  ·rw[if_neg h2] at hq;have HQ:=jq hq;clear hq HR;go_enter Tryz.func154,Tryz.ntmps154
   go_wp2_with (go_at_call 212;first|(refine H1.out.mono ?_;rintro e v ⟨rfl,rfl⟩)|(refine H2.out.mono ?_;rintro e v ⟨rfl,rfl⟩))
   first|go_ret|skip
   exact⟨Qa HQ.out.symm,rfl⟩
theorem Yp(s:List UInt8):(⟨s.toArray⟩:ByteArray).toList=s:=by rw[Lib.toList_data]
theorem ZcJ(s t:List UInt8):Op.bytesLess s t=false↔¬s<t:=by rw[Bool.eq_false_iff,Ne,blt]
theorem Zgr(s t:List UInt8)(w:World):Calls Tryz.prog 155 #[.string ⟨s.toArray⟩,.string ⟨t.toArray⟩] w fun e w'=>e=.returned (.int .i64 (ZbB s t))/\w'=w:=by
 have H1:=jq (ZcI s w);have H2:=jq (ZcI t w);have HR:=jq (show ZbB s t=if Op.bytesLess s t=true then-1 else if Op.bytesLess t s=true then 1 else 0 from rfl);generalize ZbB s t=res at*
 rcases JD s t with h|h|h
 ·have hb:Op.bytesLess s t=true:=(blt s t).2 h;have hq:=HR.out;rw[if_pos hb] at hq;have HQ:=jq hq;have hb2:Op.bytesLess (⟨s.toArray⟩:ByteArray).toList (⟨t.toArray⟩:ByteArray).toList=true:=by rw[Yp,Yp];exact hb
  clear hq HR h;go_enter Tryz.func155,Tryz.ntmps155
  go_wp2_with (go_at_call 213;first|(refine H1.out.mono ?_;rintro e v ⟨rfl,rfl⟩)|(refine H2.out.mono ?_;rintro e v ⟨rfl,rfl⟩))
  first|go_ret|skip
  exact⟨Qa HQ.out.symm,rfl⟩
 ·subst h;have hb:Op.bytesLess s s=false:=(ZcJ s s).2 (List.lt_irrefl s);have hq:=HR.out;rw[if_neg (by rw[hb];decide),if_neg (by rw[hb];decide)] at hq;have HQ:=jq hq;have hb2:Op.bytesLess (⟨s.toArray⟩:ByteArray).toList (⟨s.toArray⟩:ByteArray).toList=false:=by rw[Yp];exact hb
  clear hq HR;go_enter Tryz.func155,Tryz.ntmps155
  go_wp2_with (go_at_call 213;first|(refine H1.out.mono ?_;rintro e v ⟨rfl,rfl⟩)|(refine H2.out.mono ?_;rintro e v ⟨rfl,rfl⟩))
  first|go_ret|skip
  exact⟨Qa HQ.out.symm,rfl⟩
 ·have hb:Op.bytesLess s t=false:=(ZcJ s t).2 (ZfG h);have hc:Op.bytesLess t s=true:=(blt t s).2 h;have hq:=HR.out;rw[if_neg (by rw[hb];decide),if_pos hc] at hq;have HQ:=jq hq;have hb2:Op.bytesLess (⟨s.toArray⟩:ByteArray).toList (⟨t.toArray⟩:ByteArray).toList=false:=by rw[Yp,Yp];exact hb
  have hne:(s==t)=false:=by rw[beq_eq_false_iff_ne];rintro rfl;exact List.lt_irrefl s h
  have hne2:((⟨s.toArray⟩:ByteArray).toList==(⟨t.toArray⟩:ByteArray).toList)=false:=by rw[Yp,Yp];exact hne
  clear hq HR h;go_enter Tryz.func155,Tryz.ntmps155
  go_wp2_with (go_at_call 213;first|(refine H1.out.mono ?_;rintro e v ⟨rfl,rfl⟩)|(refine H2.out.mono ?_;rintro e v ⟨rfl,rfl⟩))
  first|go_ret|skip
  exact⟨Qa HQ.out.symm,rfl⟩
def or3(a b c:Int):Int:=if a≠0 then a else if b≠0 then b else c
theorem ZhJ(a b c:Int)(bl:Nat)(w:World)(h0:w.cell? ⟨bl,0,none⟩=some (.int .i64 a))(h1:w.cell? ⟨bl,1,none⟩=some (.int .i64 b))(h2:w.cell? ⟨bl,2,none⟩=some (.int .i64 c)):
 Calls Tryz.prog 152 #[.slice (some ⟨bl,0,none⟩) 3 3] w fun e w'=>e=.returned (.int .i64 (or3 a b c))/\Below w.1.size w w':=by
 have HR:=jq (show ∀r:Int,(a≠0->r=a)->(a=0->b≠0->r=b)->(a=0->b=0->r=c)->or3 a b c=r by
  intro r h1 h2 h3;unfold or3
  by_cases h:a=0
  ·rw[if_neg (by simp[h])]
   by_cases h':b=0
   ·rw[if_neg (by simp[h']),h3 h h']
   ·rw[if_pos h',h2 h h']
  ·rw[if_pos h,h1 h])
 generalize or3 a b c=res at*;have HB:=jq (Below.refl w.1.size w);go_enter Tryz.func152,Tryz.ntmps152
 go_wp2_with fail
 go_loop [8] (fun i=>∃k:Nat,k<=3/\i=.int .i64 k/\Hid (1<=k->a=0)/\Hid (2<=k->b=0)/\Hid (3<=k->c=0)) (fun i=>3-(intOf i).toNat)
 case atStart=>exact⟨0,by omega,rfl,fun h=>by omega,fun h=>by omega,fun h=>by omega⟩
 case round=>
  obtain⟨k,hk,rfl,HA,HBB,HCC⟩:=hrel
  by_cases hlt:k<3
  ·obtain rfl|rfl|rfl:k=0\/k=1\/k=2:=by omega
   ·by_cases ha:a=0
    ·have hx:(a !=0)=false:=by simp[ha]
     have HA0:=jq ha;clear ha HA HBB HCC hk hlt
     go_wp2
     go_round
     case rel=>exact⟨1,by omega,by go_num,fun _=>HA0.out,fun h=>by omega,fun h=>by omega⟩
     case measure=>simp[intOf]
    ·have hx:(a !=0)=true:=by simp[ha]
     have HE:=jq (HR.out a (fun _=>rfl) (fun h=>absurd h ha) (fun h=>absurd h ha));clear ha HA HBB HCC hk hlt
     go_wp2
     go_ret
     exact⟨Qa HE.out.symm,HB.out⟩
   ·have HA0:=jq (HA.out (by omega))
    by_cases hb:b=0
    ·have hx:(b !=0)=false:=by simp[hb]
     have HB0:=jq hb;clear hb HA HBB HCC hk hlt
     go_wp2
     go_round
     case rel=>exact⟨2,by omega,by go_num,fun _=>HA0.out,fun _=>HB0.out,fun h=>by omega⟩
     case measure=>simp[intOf]
    ·have hx:(b !=0)=true:=by simp[hb]
     have HE:=jq (HR.out b (fun h=>absurd HA0.out h) (fun _ _=>rfl) (fun _ h=>absurd h hb));clear hb HA HBB HCC hk hlt
     go_wp2
     go_ret
     exact⟨Qa HE.out.symm,HB.out⟩
   ·have HA0:=jq (HA.out (by omega));have HB0:=jq (HBB.out (by omega))
    by_cases hc:c=0
    ·have hx:(c !=0)=false:=by simp[hc]
     have HC0:=jq hc;clear hc HA HBB HCC hk hlt
     go_wp2
     go_round
     case rel=>exact⟨3,by omega,by go_num,fun _=>HA0.out,fun _=>HB0.out,fun _=>HC0.out⟩
     case measure=>simp[intOf]
    ·have hx:(c !=0)=true:=by simp[hc]
     have HE:=jq (HR.out c (fun h=>absurd HA0.out h) (fun _ h=>absurd HB0.out h) (fun _ _=>rfl));clear hc HA HBB HCC hk hlt
     go_wp2
     go_ret
     exact⟨Qa HE.out.symm,HB.out⟩
  ·obtain rfl:k=3:=by omega
   have HE:=jq (HR.out 0 (fun h=>absurd (HA.out (by omega)) h) (fun _ h=>absurd (HBB.out (by omega)) h) (fun _ _=>(HCC.out (by omega)).symm));clear HA HBB HCC hk hlt
   go_wp2
   go_ret
   exact⟨Qa HE.out.symm,HB.out⟩
theorem ZhK(a b c:Int)(w:World):Calls Tryz.prog 152 #[.slice (some ⟨w.1.size,0,none⟩) 3 3] (w.alloc (.cells #[.int .i64 a,.int .i64 b,.int .i64 c] 3)) fun e w'=>e=.returned (.int .i64 (or3 a b c))/\Below w.1.size w w':=by
 have hb:=heap_alloc_new w (.cells #[.int .i64 a,.int .i64 b,.int .i64 c] 3);refine(ZhJ a b c w.1.size _ (cell_of_row _ _ 0 _ _ _ hb) (cell_of_row _ _ 1 _ _ _ hb) (cell_of_row _ _ 2 _ _ _ hb)).mono ?_;rintro e w' ⟨he,h⟩;exact⟨he,((Below.refl w.1.size w).alloc (Nat.le_refl _) _).trans (h.mono (by simp))⟩
end
end Go.Proofs.YtokjnjdbnabchaaGreatDoor
