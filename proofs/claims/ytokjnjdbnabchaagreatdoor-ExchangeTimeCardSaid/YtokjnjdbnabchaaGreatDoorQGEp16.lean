/- Lv, Lof, Lg, Nm, Lt1. -/
import Derived.Test.YtokjnjdbnabchaaGreatDoorQGEp38
import Derived.Test.YtokjnjdbnabchaaGreatDoorQGEp1
import Derived.Laws.IdiomStrings
import Derived.OwnWalk
set_option maxRecDepth 20000
set_option maxHeartbeats 1000000
namespace Go.Proofs.YtokjnjdbnabchaaGreatDoor
open Go.Lib renaming hid→jq
open Go.RowKit Go.Shelf
section
structure Lot.Sz (L:Nat) (l:Lot):Prop where
 id:l.id.length<=L
 inst:l.inst.length<=L
 q:l.q.length<=L
 c:l.c.length<=L
 u:l.u.length<=L
 a1: -9223372036854775808<=l.acq
 a2:l.acq<=9223372036854775807
 o1: -9223372036854775808<=l.opn
 o2:l.opn<=9223372036854775807
end
section
attribute [local go_sem] Oper.semAt_some
end
section
structure Lot.Max (x:Lot):Prop where
 id:x.id.length<=maxLen
 inst:x.inst.length<=maxLen
 q:x.q.length<=maxLen
 c:x.c.length<=maxLen
 u:x.u.length<=maxLen
theorem YQ(a:List UInt8)(w:World):Calls Tryz.prog 127 #[S a] w fun e w'=>e=.returned (.bool (decide (13<a.length)))/\w=w':=by
 unfold S;go_enter Tryz.func127,Tryz.ntmps127
 go_wp2_with fail
 go_ret
 refine⟨Qm ?_,rfl⟩;rw[Bool.eq_iff_iff];simp
 omega
end
section
theorem ZeB(b:UInt8):Vf b=true↔(97<=(b.toNat:Int)/\(b.toNat:Int)<=122)\/(48<=(b.toNat:Int)/\(b.toNat:Int)<=57)\/(b.toNat:Int)=95:=by
 unfold Vf;simp only[Bool.or_eq_true,Bool.and_eq_true,decide_eq_true_eq,beq_iff_eq,UInt8.le_iff_toNat_le,<-UInt8.toNat_inj];simp
 omega
theorem ZfR(s:List UInt8)(w:World):∃cap W1,(convert 9 145 (.string ⟨s.toArray⟩)).run Tryz.prog w=.ok (.slice (some ⟨w.1.size,0,none⟩) s.length cap) W1/\Below w.1.size w W1/\W1.1.size=w.1.size+1/\∀(j:Nat) (b:UInt8),s[j]?=some b->W1.cell? ⟨w.1.size,j,none⟩=some (.int .u8 (b.toNat:Int)):=by
 have h:=run_bytes_of_string (P:=Tryz.prog) w 9 145 5 ⟨s.toArray⟩ Tryz.underlying9 Tryz.underlying145 Tryz.underlying5;have hsz:(⟨s.toArray⟩:ByteArray).size=s.length:=Qw s;rw[hsz] at h;generalize grownCap w s.length 0 5=cap at h;refine⟨_,_,h,((Below.refl _ w).drew).alloc (Nat.le_refl _) _,by simp,fun j b hj=> ?_⟩;have hb:=heap_alloc_new w.drew (.cells (bytesRow ⟨s.toArray⟩ cap) 5 ((bytesRow ⟨s.toArray⟩ cap).size,(bytesRow ⟨s.toArray⟩ cap).size+1));refine(cell_of_row _ w.1.size j _ _ _ hb).trans ?_;have hlt:=(List.getElem?_eq_some_iff.1 hj).1;unfold bytesRow;rw[Array.getElem?_append_left (by simpa using hlt),Array.getElem?_map];simp[hj]
theorem Vh{s:List UInt8}{k:Nat}{b:UInt8}(h:s[k]?=some b)(ha:(s.take k).all Vf=true)(hb:Vf b=true):(s.take (k+1)).all Vf=true:=by
 obtain⟨hk,rfl⟩:=List.getElem?_eq_some_iff.1 h
 rw[List.take_succ_eq_append_getElem hk,List.all_append,ha];simp[hb]
theorem ZeC{s:List UInt8}{k:Nat}{b:UInt8}(h:s[k]?=some b)(hb:¬Vf b=true):Qv s=false:=by
 unfold Qv
 have:s.all Vf=false:=by
  rw[List.all_eq_false];exact⟨b,List.mem_of_getElem? h,hb⟩
 rw[this,Bool.and_false]
theorem VB(s:List UInt8):Vd 146 #[S s] (.bool (Qv s)):=by
 intro w hp;have H:=jq (Kp.start hp);have hsz:=Qw s;clear hp
 rcases Nat.eq_zero_or_pos s.length with h0|h0
 ·obtain rfl:s=[]:=List.eq_nil_of_length_eq_zero h0;have HB:=jq (show Qv []=false by rfl);rw[HB.out];clear h0 hsz;unfold S;go_enter Tryz.func146,Tryz.ntmps146
  go_wp2_with fail
  first|go_ret|skip
  exact⟨rfl,H.out.bl⟩
 by_cases h1:16<s.length
 ·have HB:=jq (show Qv s=false by unfold Qv;rw[decide_eq_false (show ¬s.length<=16 by omega)];simp);rw[HB.out];have HSZ:=jq hsz;have hs1:((s.length:Int)==0)=false:=beq_false_of_ne (by omega);have hs2:(16:Int)<(s.length:Int):=by omega
  clear hsz h0 h1;unfold S;go_enter Tryz.func146,Tryz.ntmps146
  go_wp2_with fail
  first|go_ret|skip
  exact⟨rfl,H.out.bl⟩
 obtain⟨cap,W1,hcv,hbW,hszW,hcell⟩:=ZfR s w
 have HCE:=jq hcell;have H1:=jq (H.out.here hbW)
 have HOK:=jq (show s.all Vf=true->Qv s=true by
  intro ha;unfold Qv;rw[ha,decide_eq_true (show s.length<=16 by omega),decide_eq_true (show s≠[] by intro e;rw[e] at h0;simp at h0)];rfl)
 have hs1:((s.length:Int)==0)=false:=beq_false_of_ne (by omega);have hs2:¬(16:Int)<(s.length:Int):=by omega
 obtain⟨n,hn⟩:∃n,s.length=n:=⟨_,rfl⟩
 rw[hn] at hcv;have hn16:n<=16:=by omega
 have HN:=jq hn;clear hcell hbW hszW hsz h0 h1 hn H;unfold S;go_enter Tryz.func146,Tryz.ntmps146
 go_wp2_with fail
 go_loop [16] (fun i=>∃k:Nat,k<=n/\i=.int .i64 k/\Hid ((s.take k).all Vf=true)) (fun i=>n-(intOf i).toNat)
 case atStart=>exact⟨0,Nat.zero_le _,rfl,by show _=_;simp⟩
 case round=>
  obtain⟨k,hk,rfl,HA⟩:=hrel
  by_cases hlt:k<n
  ·obtain⟨b,hb⟩:∃b,s[k]?=some b:=⟨_,List.getElem?_eq_getElem (by have:=HN.out;omega)⟩
   have d0:=HCE.out k b hb;have HB:=jq hb;have HIF:=jq (ZeB b);clear hb
   by_cases h95:(b.toNat:Int)=95
   ·have hx:((b.toNat:Int) !=95)=false:=by simp[h95]
    go_wp2
    all_goals
     go_round
     case rel=>exact⟨k+1,by omega,by go_num,Vh HB.out HA.out (by rw[HIF.out];omega)⟩
     case measure=>simp[intOf];omega
   ·have hx:((b.toNat:Int) !=95)=true:=by simp[h95]
    go_wp2
    all_goals first
     |(go_round
       case rel=>exact⟨k+1,by omega,by go_num,Vh HB.out HA.out (by rw[HIF.out];omega)⟩
       case measure=>simp[intOf];omega)
     |(go_ret
       exact⟨Qm (ZeC HB.out (by rw[HIF.out];omega)).symm,H1.out.bl⟩)
  ·go_wp2
   go_ret
   exact⟨Qm (HOK.out (by have:=HA.out;rwa [List.take_of_length_le (by have:=HN.out;omega)] at this)).symm,H1.out.bl⟩
end
section
theorem ZdY(l:List UInt8)(a b:Nat):(⟨l.toArray⟩:ByteArray).extract a b=⟨((l.take b).drop a).toArray⟩:=by
 apply ByteArray.ext
 rw[ByteArray.data_extract,List.extract_toArray,List.extract_eq_take_drop,List.drop_take]
theorem ZeD(s:List UInt8)(hs:s.length<=1000000000):Vd 310 #[S s,.string ⟨#[47]⟩] (.tuple #[S (XL s),S (Vm s),.bool (decide (47∈s))]):=by
 intro w hp;have H:=jq (Kp.start hp);have HIX:=jq (fun W=>Tryz.stringslite_Index_one ⟨s.toArray⟩ 47 W);rw[show(⟨s.toArray⟩:ByteArray).data.toList=s from rfl] at HIX;obtain⟨i1,i2⟩:=ZaN s
 have hsz:=Qw s;clear hp
 by_cases h:47∈s
 ·obtain⟨a1,a2,a3,a4⟩:=i1 h
  rw[a1] at HIX;rw[decide_eq_true h];have HN:=jq (show(⟨s.toArray⟩:ByteArray).extract 0 (XL s).length=⟨(XL s).toArray⟩ by rw[ZdY,a3];rfl);have HR:=jq (show(⟨s.toArray⟩:ByteArray).extract ((XL s).length+1) s.length=⟨(Vm s).toArray⟩ by rw[ZdY,List.take_length,a4]);generalize hk:(XL s).length=k at*;have hb1:k<(⟨s.toArray⟩:ByteArray).size:=by rw[hsz];exact a2
  have hb2:(⟨s.toArray⟩:ByteArray).size<=1000000000:=by rw[hsz];exact hs
  clear i1 i2 h a1 a2 a3 a4 hk hsz hs;unfold S;go_enter Tryz.func310,Tryz.ntmps310
  go_wp2_with fail
  refine(HIX.out _).mono ?_;rintro e w1 ⟨rfl,rfl⟩;go_upto_region 3 with (fail)
  go_region
  all_goals
   go_wp2_with fail
   go_ret3
   rw[HN.out,HR.out];exact⟨rfl,H.out.bl.drew⟩
 ·obtain⟨a1,a2,a3⟩:=i2 h
  rw[a1] at HIX;rw[decide_eq_false h,a2,a3];clear i1 i2 h a1 a2 a3 hsz hs;unfold S;go_enter Tryz.func310,Tryz.ntmps310
  go_wp2_with fail
  refine(HIX.out _).mono ?_;rintro e w1 ⟨rfl,rfl⟩;go_wp2_with fail
  first|go_ret3|skip
  exact⟨rfl,H.out.bl⟩
theorem ZfT(s:List UInt8)(hs:s.length<=1000000000):Vd 299 #[S s,.string ⟨#[47]⟩] (.tuple #[S (XL s),S (Vm s),.bool (decide (47∈s))]):=by
 intro w hp;have H:=jq (Kp.start hp);have HC:=jq (ZeD s hs);clear hp hs;generalize XL s=a at*;generalize Vm s=b at*;generalize decide (47∈s)=bb at*;unfold S at*
 go_enter Tryz.func299,Tryz.ntmps299
 go_wp2_with fail
 refine(HC.out _ H.out.pw).mono ?_;rintro e w1 ⟨rfl,hb⟩;go_wp2_with fail
 first|go_ret3|skip
 exact⟨rfl,(H.out.here hb).bl⟩
end
end Go.Proofs.YtokjnjdbnabchaaGreatDoor
