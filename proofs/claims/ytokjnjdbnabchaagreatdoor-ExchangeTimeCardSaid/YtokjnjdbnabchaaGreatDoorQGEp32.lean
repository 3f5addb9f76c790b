/- Em. -/
import Derived.Test.YtokjnjdbnabchaaGreatDoorQGEp31
import Derived.Test.YtokjnjdbnabchaaGreatDoorQGEp38
set_option maxRecDepth 20000
set_option maxHeartbeats 2000000
namespace Go.Proofs.YtokjnjdbnabchaaGreatDoor
open Go.Lib renaming hid→jq
section
open Go.RowKit Go.Shelf
attribute [local go_sem] Oper.semAt_some
attribute [local go_sem ↓] Go.wp_at_zero Go.wp_at_succ
theorem ZbX(s:List UInt8)(w:World)(hl:s.length<=maxLen):Calls Tryz.prog 108 #[.string ⟨s.toArray⟩] w fun e w'=>e=.returned (.bool (Qp s))/\w=w':=by
 have HNB:=jq (Zbf s);have hsz:=Qw s;have hm:s.length<=9223372036854775807:=hl;clear hl;go_enter Tryz.func108,Tryz.ntmps108
 go_wp2
 go_loop [3,6] (fun _ i=>∃k:Nat,k<=s.length/\i=.int .i64 k/\Hid ((s.take k).all ZbW=true)) (fun _ i=>s.length-(intOf i).toNat)
 case atStart=>exact⟨0,Nat.zero_le _,rfl,by show _=_;simp⟩
 case round=>
  obtain⟨k,hk,rfl,HA⟩:=hrel
  by_cases hlt:k<s.length
  ·obtain⟨b,hb⟩:∃b,s[k]?=some b:=⟨_,List.getElem?_eq_getElem hlt⟩
   have hks:k<(⟨s.toArray⟩:ByteArray).size:=by rw[Qw];exact hlt
   have hbk:(⟨s.toArray⟩:ByteArray)[k]=b:=ZiU hb hks;have HB:=jq hb;clear hb;have HIF:=jq (ZgB b);clear HNB
   go_wp2
   all_goals first
    |(go_round
      case rel=>exact⟨k+1,by omega,by go_num,ZgA HB.out HA.out (by rw[HIF.out];omega)⟩
      case measure=>simp[intOf];omega)
    |(go_ret
      exact⟨Qm (ZeU HB.out (by rw[Bool.eq_false_iff];intro h;have:=HIF.out.1 h;omega)).symm,rfl⟩)
  ·have HAL:=jq (show s.all ZbW=true by have:=HA.out;rwa [List.take_of_length_le (by omega)] at this);rw[HAL.out,Bool.and_true] at HNB
   go_wp2
   go_ret
   exact⟨Qm (by rw[HNB.out];rw[Bool.eq_iff_iff];simp;omega),rfl⟩
theorem ZcR(A:Option Addr)(c:Nat)(g:Value)(w:World):Calls Tryz.prog 251 #[.slice A 0 c,g] w fun e w'=>e=.returned (.tuple #[.agg #[.string ⟨#[]⟩,.int .i64 0],.bool false])/\Below w.1.size w w':=by
 have hb1:=(Below.refl w.1.size w).alloc (Nat.le_refl _) (.cells #[.string ⟨#[]⟩,.int .i64 0] 165);have HK1:=jq (show BlkB (w.alloc (.cells #[.string ⟨#[]⟩,.int .i64 0] 165)) w.1.size #[.string ⟨#[]⟩,.int .i64 0] 165 from heap_alloc_new w _);have HB1:=jq hb1;clear hb1;go_enter Tryz.func251,Tryz.ntmps251
 go_wp2_with fail
 generalize w.alloc _=W1 at*;refine wp_loop_rounds 1 ?_;rw[rounds_succ];have HK2:=jq (HK1.out.alloc (.cells #[.string ⟨#[]⟩,.int .i64 0] 165));have HN2:=jq (show BlkB (W1.alloc (.cells #[.string ⟨#[]⟩,.int .i64 0] 165)) W1.1.size #[.string ⟨#[]⟩,.int .i64 0] 165 from heap_alloc_new W1 _);have HB2:=jq (HB1.out.alloc HB1.out.size (.cells #[.string ⟨#[]⟩,.int .i64 0] 165));go_upto_region 8 with (fail)
 generalize W1.alloc _=W2 at*;generalize W1.1.size=b2 at*;have c0:=HN2.out.cell 0 (show(#[.string ⟨#[]⟩,.int .i64 0]:Array Value)[0]?=some (.string ⟨#[]⟩) from rfl);have c1:=HN2.out.cell 1 (show(#[.string ⟨#[]⟩,.int .i64 0]:Array Value)[1]?=some (.int .i64 0) from rfl);have d0:=HK2.out.cell 0 (show(#[.string ⟨#[]⟩,.int .i64 0]:Array Value)[0]?=some (.string ⟨#[]⟩) from rfl);have d1:=HK2.out.cell 1 (show(#[.string ⟨#[]⟩,.int .i64 0]:Array Value)[1]?=some (.int .i64 0) from rfl);have f0:=HK2.out.frozen 0;have f1:=HK2.out.frozen 1;go_wp2_with fail
 refine bodyPost_ret (v:=.tuple #[.agg #[.string ⟨#[]⟩,.int .i64 0],.bool false]) (by simp[results,Tryz.results251,go_sem,d0,d1]) rfl ?_;exact⟨rfl,(HB2.out.setCell (p:=⟨w.1.size,0,none⟩) (Nat.le_refl _) _).setCell (p:=⟨w.1.size,1,none⟩) (Nat.le_refl _) _⟩
theorem ZcS(A:Option Addr)(c:Nat)(s:List UInt8)(w:World):Calls Tryz.prog 185 #[.slice A 0 c,.string ⟨s.toArray⟩] w fun e w'=>e=.returned (.tuple #[.agg #[.string ⟨#[]⟩,.int .i64 0],.bool false])/\Below w.1.size w w':=by
 have hb1:=((Below.refl w.1.size w).alloc (Nat.le_refl _) (.cells #[.string ⟨s.toArray⟩] 9)).alloc (by simp) (.cells #[.string ⟨#[]⟩,.int .i64 0] 165);have HK1:=jq (show BlkB ((w.alloc (.cells #[.string ⟨s.toArray⟩] 9)).alloc (.cells #[.string ⟨#[]⟩,.int .i64 0] 165)) (w.alloc (.cells #[.string ⟨s.toArray⟩] 9)).heap.size #[.string ⟨#[]⟩,.int .i64 0] 165 from heap_alloc_new _ _);rw[show(w.alloc (.cells #[.string ⟨s.toArray⟩] 9)).heap.size=w.1.size+1 by simp] at HK1;have HB1:=jq hb1;clear hb1;go_enter Tryz.func185,Tryz.ntmps185
 go_wp2_with (go_at_call 251;refine(ZcR _ _ _ _).mono ?_;rintro e w2 ⟨rfl,hb2⟩;have HB2:=jq (HB1.out.trans (hb2.mono HB1.out.size));have HK2:=jq (HK1.out.here hb2);have d0:=HK2.out.cell 0 (show(#[.string ⟨#[]⟩,.int .i64 0]:Array Value)[0]?=some (.string ⟨#[]⟩) from rfl);have d1:=HK2.out.cell 1 (show(#[.string ⟨#[]⟩,.int .i64 0]:Array Value)[1]?=some (.int .i64 0) from rfl);have f0:=HK2.out.frozen 0;have f1:=HK2.out.frozen 1)
 refine bodyPost_ret (v:=.tuple #[.agg #[.string ⟨#[]⟩,.int .i64 0],.bool false]) (by simp[results,Tryz.results185,go_sem,d0,d1]) rfl ?_;exact⟨rfl,(HB2.out.setCell (p:=⟨w.1.size+1,0,none⟩) (Nat.le_succ _) _).setCell (p:=⟨w.1.size+1,1,none⟩) (Nat.le_succ _) _⟩
theorem ZbY(s:List UInt8)(q:Nat)(w:World)(hp:Env w)(hq:BlkB w q #[.string ⟨s.toArray⟩,.int .i64 0] 165)(hl:s.length<=maxLen):
 Calls Tryz.prog 129 #[.slice (some ⟨q,0,none⟩) 1 1] w fun e w'=>∃z:Int,e=.returned (.int .i64 z)/\(z==0)=Qp s/\Below w.1.size w w':=by
 have HC:=jq (fun W=>ZbX s W hl);have H:=jq (Kp.start hp);have e0:=hq.cell 0 (show(#[.string ⟨s.toArray⟩,.int .i64 0]:Array Value)[0]?=some (.string ⟨s.toArray⟩) from rfl);have e1:=hq.cell 1 (show(#[.string ⟨s.toArray⟩,.int .i64 0]:Array Value)[1]?=some (.int .i64 0) from rfl);have HB:=jq (H.out.new w.1.size rfl #[.string ⟨s.toArray⟩,.int .i64 0] 165);clear hq hp hl;go_enter Tryz.func129,Tryz.ntmps129
 go_wp2_with fail
 refine wp_loop_rounds 2 ?_;rw[rounds_succ];go_upto_region 6 with (fail)
 generalize w.alloc _=W1 at*;clear e0 e1;have c0:=HB.out.c 0 0 rfl (show(#[.string ⟨s.toArray⟩,.int .i64 0]:Array Value)[0]?=some (.string ⟨s.toArray⟩) from rfl);have c1:=HB.out.c 0 1 rfl (show(#[.string ⟨s.toArray⟩,.int .i64 0]:Array Value)[1]?=some (.int .i64 0) from rfl);go_wp2_with (go_at_call 108;refine(HC.out _).mono ?_;rintro e w2 ⟨rfl,rfl⟩;cases hcb:Qp s)
 ·first|go_ret|skip
  exact⟨23,rfl,by rw[hcb];rfl,HB.out.bl⟩
 have hS:Hid (∀X,Bz W1 X->X.cell? ⟨w.1.size,0,none⟩=some (.string ⟨s.toArray⟩)):=jq fun X hX=>(HB.out.here hX).c 0 0 rfl rfl
 have hz0:Bz W1 W1:=Bz.refl W1;have HCB:=jq hcb;clear hcb c1
 go_region_held3 (fun X=>X.cell? ⟨w.1.size,0,none⟩=some (.string ⟨s.toArray⟩)) (first|(exact hS.out _ (by repeat' (first|assumption|exact Bz.refl _|refine Bz.drew ?_|refine Bz.alloc ?_ _|refine Bz.set ?_ (by first|assumption|exact Nat.le_refl _|exact Bz.size (by assumption)) _ _)))|go_keep)
  (first
    |(go_at_call 185;refine(ZcS _ _ s _).mono ?_;rintro e w6 ⟨rfl,hb6⟩;have hz1:Bz W1 w6:=Bz.call (by repeat' (first|assumption|exact Bz.refl _|refine Bz.drew ?_|refine Bz.alloc ?_ _|refine Bz.set ?_ (by first|assumption|exact Nat.le_refl _|exact Bz.size (by assumption)) _ _)) hb6
      first
       |(have q1:BlkB w6 W1.1.size #[.string ⟨#[]⟩,.int .i64 0] 165:=BlkB.here (w:=(W1.alloc (.cells #[.string ⟨#[]⟩,.int .i64 0] 165)).drew) (heap_alloc_new W1 _) hb6;have n0:=q1.cell 0 rfl;have n1:=q1.cell 1 rfl;have g0:=q1.frozen 0;have g1:=q1.frozen 1)
       |skip))
 all_goals
  go_wp2_with fail
  rw[rounds_succ];go_wp2_with fail
  first|go_ret|skip
  refine⟨0,rfl,by rw[HCB.out];rfl,HB.out.bl.trans (Below.mono ?_ HB.out.bl.size)⟩
  show Bz W1 _
  exact(by repeat' (first|assumption|exact Bz.refl _|refine Bz.drew ?_|refine Bz.alloc ?_ _|refine Bz.set ?_ (by first|assumption|exact Nat.le_refl _|exact Bz.size (by assumption)) _ _))
theorem ZdD(s:List UInt8)(w:World)(hp:Env w)(hl:s.length<=maxLen):Calls Tryz.prog 85 #[.string ⟨s.toArray⟩] w fun e w'=>e=.returned (.bool (Qp s))/\Below w.1.size w w':=by
 have hb1:=(Below.refl w.1.size w).alloc (Nat.le_refl _) (.cells #[.string ⟨s.toArray⟩,.int .i64 0] 165);have HB1:=jq hb1;have HC:=jq (ZbY s w.1.size (w.alloc (.cells #[.string ⟨s.toArray⟩,.int .i64 0] 165)) (hp.here hb1) (heap_alloc_new w _) hl);clear hb1 hp hl;go_enter Tryz.func85,Tryz.ntmps85
 go_wp2_with (go_at_call 129;refine HC.out.mono ?_;rintro e w2 ⟨z,rfl,hz,hb2⟩;have HZ:=jq hz;have HB2:=jq (HB1.out.trans (hb2.mono HB1.out.size));clear hz hb2)
 first|go_ret|skip
 exact⟨Qm HZ.out,HB2.out⟩
end
end Go.Proofs.YtokjnjdbnabchaaGreatDoor
