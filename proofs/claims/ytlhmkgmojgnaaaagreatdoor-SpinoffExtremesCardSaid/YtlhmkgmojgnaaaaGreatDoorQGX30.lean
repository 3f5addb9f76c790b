/- Ss1. -/
import Derived.Test.YtlhmkgmojgnaaaaGreatDoorQGX26
import Derived.Test.YtlhmkgmojgnaaaaGreatDoorQGX29
set_option maxRecDepth 20000
set_option maxHeartbeats 2000000
namespace Go.Proofs.YtlhmkgmojgnaaaaGreatDoor
open Go.Lib renaming hid→jq
section
open Go.RowKit Go.Shelf
attribute [local go_sem] Oper.semAt_some
attribute [local go_sem ↓] Go.wp_at_zero Go.wp_at_succ Yq
def Ya(f:Fct):Int:=if Xk f≠0 then Xk f else if f.kind≠9 then 7 else 0
theorem Zdn(f:Fct)(v:FaV)(w:World)(hp:Env w)(hf:f.Sz 1000)(hm:FaM w w.1.size f v)(hpn:v.pn<=100000)(hon:v.on<=100000):
 Calls Tryz.prog 33 #[.agg (Qm f v)] w fun e w'=>e=.returned (.int .i64 (Ya f))/\Below w.1.size w w':=by
 have H:=jq ((Kp.start hp).new w.1.size rfl (Qm f v) 30);have hl:=QN (H.out.at_ 0 rfl) (QL f v);have HC:=jq (fun W (hb:Below w.1.size w W)=>Zea f v W (hp.here hb) hf (hm.here hb) hpn hon);have HE:=jq (show Ya f=if Xk f≠0 then Xk f else if f.kind≠9 then 7 else 0 from rfl);have HK:=jq (show(Qm f v)[4]?=some (.int .i64 f.kind) from rfl);generalize Ya f=res at*;generalize Xk f=ck at*;generalize Qm f v=fb at*;clear hp hf hm hpn hon
 by_cases h0:ck=0
 ·subst h0;rw[if_neg (by simp)] at HE;go_enter Tryz.func33,Tryz.ntmps33
  go_wp2_with fail
  refine(HC.out _ H.out.bl).mono ?_;rintro e w1 ⟨rfl,hb1⟩;have H1:=jq (H.out.here hb1);have x4:=H1.out.c 0 4 rfl HK.out;clear hl H
  by_cases h9:f.kind=9
  ·rw[if_neg (by simpa using h9)] at HE;rw[h9] at x4;clear h9;go_wp2_with fail
   first|go_ret|skip
   exact⟨Qc HE.out.symm,H1.out.bl⟩
  ·rw[if_pos h9] at HE;have h9':(f.kind==9)=false:=beq_false_of_ne h9;go_wp2_with fail
   first|go_ret|skip
   exact⟨Qc HE.out.symm,H1.out.bl⟩
 ·rw[if_pos h0] at HE;have h0':(ck==0)=false:=beq_false_of_ne h0;go_enter Tryz.func33,Tryz.ntmps33
  go_wp2_with fail
  refine(HC.out _ H.out.bl).mono ?_;rintro e w1 ⟨rfl,hb1⟩;go_wp2_with fail
  first|go_ret|skip
  exact⟨Qc HE.out.symm,(H.out.here hb1).bl⟩
def Xd(ls:List Lot)(f:Fct):Bool:=decide (Zau ls=0)&&decide (Ya f=0)
theorem Zdo(A:Option Addr)(n c:Nat)(ls:List Lot)(f:Fct)(v:FaV)(w:World)(hp:Env w)(hs:YX w w.1.size A n ls)(hl:∀x∈ls,x.Sz 50000)(hn:n<=100000)(hf:f.Sz 1000)(hm:FaM w w.1.size f v)(hpn:v.pn<=100000)(hon:v.on<=100000):
 Calls Tryz.prog 14 #[.slice A n c,.agg (Qm f v)] w fun e w'=>e=.returned (.bool (Xd ls f))/\Below w.1.size w w':=by
 have H:=jq ((Kp.start hp).new w.1.size rfl (Qm f v) 30);have HC:=jq (fun W (hb:Below w.1.size w W)=>Zdn f v W (hp.here hb) hf (hm.here hb) hpn hon);have HA:=jq (fun W (hb:Below w.1.size w W)=>Zcn A n c ls W (hp.here hb) (hs.here hb) hl (by omega));have HZ:=jq (QL f v);unfold Qt at HA;have HE:=jq (show Xd ls f=(decide (Zau ls=0)&&decide (Ya f=0)) from rfl);generalize Xd ls f=res at*;generalize Ya f=ck at*;generalize Zau ls=ca at*;generalize Qm f v=fb at*;clear hp hf hm hpn hon hs hl hn
 by_cases ha:ca=0
 ·subst ha;rw[decide_eq_true rfl,Bool.true_and] at HE;go_enter Tryz.func14,Tryz.ntmps14
  go_wp2_with fail
  refine(HA.out _ H.out.bl).mono ?_;rintro e w1 ⟨rfl,hb1⟩;have H1:=jq (H.out.here hb1);have l1:=QN (H1.out.at_ 0 rfl) HZ.out;clear H
  by_cases h0:ck=0
  ·subst h0;rw[decide_eq_true rfl] at HE;go_wp2_with fail
   refine(HC.out _ H1.out.bl).mono ?_;rintro e w2 ⟨rfl,hb2⟩;go_wp2_with fail
   first|go_ret|skip
   exact⟨Qe HE.out.symm,(H1.out.here hb2).bl⟩
  ·rw[decide_eq_false h0] at HE;have h0':(ck==0)=false:=beq_false_of_ne h0;go_wp2_with fail
   refine(HC.out _ H1.out.bl).mono ?_;rintro e w2 ⟨rfl,hb2⟩;go_wp2_with fail
   first|go_ret|skip
   exact⟨Qe HE.out.symm,(H1.out.here hb2).bl⟩
 ·rw[decide_eq_false ha,Bool.false_and] at HE;have h0':(ca==0)=false:=beq_false_of_ne ha;go_enter Tryz.func14,Tryz.ntmps14
  go_wp2_with fail
  refine(HA.out _ H.out.bl).mono ?_;rintro e w1 ⟨rfl,hb1⟩;go_wp2_with fail
  first|go_ret|skip
  exact⟨Qe HE.out.symm,(H.out.here hb1).bl⟩
end
end Go.Proofs.YtlhmkgmojgnaaaaGreatDoor
