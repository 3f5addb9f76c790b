/- Nm. -/
import Derived.Test.YtlhmkgmojgnaaaaGreatDoorQGX34
import Derived.Laws.IdiomStrings
set_option maxRecDepth 20000
set_option maxHeartbeats 1000000
namespace Go.Proofs.YtlhmkgmojgnaaaaGreatDoor
open Go.Lib renaming hid→jq
section
open Go.RowKit Go.Shelf
theorem Zfb(b:UInt8):Vy b=true↔(97<=(b.toNat:Int)/\(b.toNat:Int)<=122)\/(48<=(b.toNat:Int)/\(b.toNat:Int)<=57)\/(b.toNat:Int)=95:=by
 unfold Vy;simp only[Bool.or_eq_true,Bool.and_eq_true,decide_eq_true_eq,beq_iff_eq,UInt8.le_iff_toNat_le,<-UInt8.toNat_inj];simp
 omega
theorem Zgx(s:List UInt8)(w:World):∃cap W1,(convert 9 126 (.string ⟨s.toArray⟩)).run Tryz.prog w=.ok (.slice (some ⟨w.1.size,0,none⟩) s.length cap) W1/\Below w.1.size w W1/\W1.1.size=w.1.size+1/\∀(j:Nat) (b:UInt8),s[j]?=some b->W1.cell? ⟨w.1.size,j,none⟩=some (.int .u8 (b.toNat:Int)):=by
 have h:=run_bytes_of_string (P:=Tryz.prog) w 9 126 5 ⟨s.toArray⟩ Tryz.underlying9 Tryz.underlying126 Tryz.underlying5;have hsz:(⟨s.toArray⟩:ByteArray).size=s.length:=QB s;rw[hsz] at h;generalize grownCap w s.length 0 5=cap at h;refine⟨_,_,h,((Below.refl _ w).drew).alloc (Nat.le_refl _) _,by simp,fun j b hj=> ?_⟩;have hb:=heap_alloc_new w.drew (.cells (bytesRow ⟨s.toArray⟩ cap) 5 ((bytesRow ⟨s.toArray⟩ cap).size,(bytesRow ⟨s.toArray⟩ cap).size+1));refine(cell_of_row _ w.1.size j _ _ _ hb).trans ?_;have hlt:=(List.getElem?_eq_some_iff.1 hj).1;unfold bytesRow;rw[Array.getElem?_append_left (by simpa using hlt),Array.getElem?_map];simp[hj]
theorem VC{s:List UInt8}{k:Nat}{b:UInt8}(h:s[k]?=some b)(ha:(s.take k).all Vy=true)(hb:Vy b=true):(s.take (k+1)).all Vy=true:=by
 obtain⟨hk,rfl⟩:=List.getElem?_eq_some_iff.1 h
 rw[List.take_succ_eq_append_getElem hk,List.all_append,ha];simp[hb]
theorem Zfc{s:List UInt8}{k:Nat}{b:UInt8}(h:s[k]?=some b)(hb:¬Vy b=true):Qp s=false:=by
 unfold Qp
 have:s.all Vy=false:=by
  rw[List.all_eq_false];exact⟨b,List.mem_of_getElem? h,hb⟩
 rw[this,Bool.and_false]
theorem Yz(s:List UInt8):Xo 76 #[S s] (.bool (Qp s)):=by
 intro w hp;have H:=jq (Kp.start hp);have hsz:=QB s;clear hp
 rcases Nat.eq_zero_or_pos s.length with h0|h0
 ·obtain rfl:s=[]:=List.eq_nil_of_length_eq_zero h0;have HB:=jq (show Qp []=false by rfl);rw[HB.out];clear h0 hsz;unfold S;go_enter Tryz.func76,Tryz.ntmps76
  go_wp2_with fail
  first|go_ret|skip
  exact⟨rfl,H.out.bl⟩
 by_cases h1:16<s.length
 ·have HB:=jq (show Qp s=false by unfold Qp;rw[decide_eq_false (show ¬s.length<=16 by omega)];simp);rw[HB.out];have HSZ:=jq hsz;have hs1:((s.length:Int)==0)=false:=beq_false_of_ne (by omega);have hs2:(16:Int)<(s.length:Int):=by omega
  clear hsz h0 h1;unfold S;go_enter Tryz.func76,Tryz.ntmps76
  go_wp2_with fail
  first|go_ret|skip
  exact⟨rfl,H.out.bl⟩
 obtain⟨cap,W1,hcv,hbW,hszW,hcell⟩:=Zgx s w
 have HCE:=jq hcell;have H1:=jq (H.out.here hbW)
 have HOK:=jq (show s.all Vy=true->Qp s=true by
  intro ha;unfold Qp;rw[ha,decide_eq_true (show s.length<=16 by omega),decide_eq_true (show s≠[] by intro e;rw[e] at h0;simp at h0)];rfl)
 have hs1:((s.length:Int)==0)=false:=beq_false_of_ne (by omega);have hs2:¬(16:Int)<(s.length:Int):=by omega
 obtain⟨n,hn⟩:∃n,s.length=n:=⟨_,rfl⟩
 rw[hn] at hcv;have hn16:n<=16:=by omega
 have HN:=jq hn;clear hcell hbW hszW hsz h0 h1 hn H;unfold S;go_enter Tryz.func76,Tryz.ntmps76
 go_wp2_with fail
 go_loop [16] (fun i=>∃k:Nat,k<=n/\i=.int .i64 k/\Hid ((s.take k).all Vy=true)) (fun i=>n-(intOf i).toNat)
 case atStart=>exact⟨0,Nat.zero_le _,rfl,by show _=_;simp⟩
 case round=>
  obtain⟨k,hk,rfl,HA⟩:=hrel
  by_cases hlt:k<n
  ·obtain⟨b,hb⟩:∃b,s[k]?=some b:=⟨_,List.getElem?_eq_getElem (by have:=HN.out;omega)⟩
   have d0:=HCE.out k b hb;have HB:=jq hb;have HIF:=jq (Zfb b);clear hb
   by_cases h95:(b.toNat:Int)=95
   ·have hx:((b.toNat:Int) !=95)=false:=by simp[h95]
    go_wp2
    all_goals
     go_round
     case rel=>exact⟨k+1,by omega,by go_num,VC HB.out HA.out (by rw[HIF.out];omega)⟩
     case measure=>simp[intOf];omega
   ·have hx:((b.toNat:Int) !=95)=true:=by simp[h95]
    go_wp2
    all_goals first
     |(go_round
       case rel=>exact⟨k+1,by omega,by go_num,VC HB.out HA.out (by rw[HIF.out];omega)⟩
       case measure=>simp[intOf];omega)
     |(go_ret
       exact⟨Qe (Zfc HB.out (by rw[HIF.out];omega)).symm,H1.out.bl⟩)
  ·go_wp2
   go_ret
   exact⟨Qe (HOK.out (by have:=HA.out;rwa [List.take_of_length_le (by have:=HN.out;omega)] at this)).symm,H1.out.bl⟩
theorem ZaO(d:Int)(_h1: -9223372036854775808<=d)(_h2:d<=9223372036854775807):Xo 77 #[.int .i64 d] (.bool (Jq d)):=by
 intro w hp;have HB:=jq (show Jq d=(decide (-25567<=d)&&decide (d<=84005)) from rfl);rw[HB.out];have H:=jq (Kp.start hp);clear hp HB
 cases e1:decide (-25567<=d)<;>cases e2:decide (d<=84005)
 all_goals
  go_enter Tryz.func77,Tryz.ntmps77
  go_wp2_with fail
  first|go_ret|skip
  exact⟨rfl,H.out.bl⟩
end
end Go.Proofs.YtlhmkgmojgnaaaaGreatDoor
