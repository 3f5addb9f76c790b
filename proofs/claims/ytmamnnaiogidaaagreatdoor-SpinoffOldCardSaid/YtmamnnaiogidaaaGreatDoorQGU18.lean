/- Ss1. -/
import Derived.Test.YtmamnnaiogidaaaGreatDoorQGU16
import Derived.Test.YtmamnnaiogidaaaGreatDoorQGU34
set_option maxRecDepth 20000
set_option maxHeartbeats 2000000
namespace Go.Proofs.YtmamnnaiogidaaaGreatDoor
open Go.Lib renaming hid→jq
section
open Go.RowKit Go.Shelf
attribute [local go_sem] Oper.semAt_some
attribute [local go_sem ↓] Go.wp_at_zero Go.wp_at_succ Yh
def Za4(f:Fct):Int:=if YY f≠0 then YY f else if f.kind≠9 then 7 else 0
theorem Zgq(f:Fct)(v:FaV)(w:World)(hp:Env w)(hf:f.Sz 1000)(hm:FaM w w.1.size f v)(hpn:v.pn<=100000)(hon:v.on<=100000):
 Calls Tryz.prog 60 #[.agg (Qo f v)] w fun e w'=>e=.returned (.int .i64 (Za4 f))/\Below w.1.size w w':=by
 have H:=jq ((Kp.start hp).new w.1.size rfl (Qo f v) 30);have hl:=QP (H.out.at_ 0 rfl) (QR f v);have HC:=jq (fun W (hb:Below w.1.size w W)=>Zhr f v W (hp.here hb) hf (hm.here hb) hpn hon);have HE:=jq (show Za4 f=if YY f≠0 then YY f else if f.kind≠9 then 7 else 0 from rfl);have HK:=jq (show(Qo f v)[4]?=some (.int .i64 f.kind) from rfl);generalize Za4 f=res at*;generalize YY f=ck at*;generalize Qo f v=fb at*;clear hp hf hm hpn hon
 by_cases h0:ck=0
 ·subst h0;rw[if_neg (by simp)] at HE;go_enter Tryz.func60,Tryz.ntmps60
  go_wp2_with fail
  refine(HC.out _ H.out.bl).mono ?_;rintro e w1 ⟨rfl,hb1⟩;have H1:=jq (H.out.here hb1);have x4:=H1.out.c 0 4 rfl HK.out;clear hl H
  by_cases h9:f.kind=9
  ·rw[if_neg (by simpa using h9)] at HE;rw[h9] at x4;clear h9;go_wp2_with fail
   first|go_ret|skip
   exact⟨Qf HE.out.symm,H1.out.bl⟩
  ·rw[if_pos h9] at HE;have h9':(f.kind==9)=false:=beq_false_of_ne h9;go_wp2_with fail
   first|go_ret|skip
   exact⟨Qf HE.out.symm,H1.out.bl⟩
 ·rw[if_pos h0] at HE;have h0':(ck==0)=false:=beq_false_of_ne h0;go_enter Tryz.func60,Tryz.ntmps60
  go_wp2_with fail
  refine(HC.out _ H.out.bl).mono ?_;rintro e w1 ⟨rfl,hb1⟩;go_wp2_with fail
  first|go_ret|skip
  exact⟨Qf HE.out.symm,(H.out.here hb1).bl⟩
def Xr(ls:List Lot)(f:Fct):Bool:=decide (Xm ls=0)&&decide (Za4 f=0)
theorem Zao(A:Option Addr)(n c:Nat)(ls:List Lot)(f:Fct)(v:FaV)(w:World)(hp:Env w)(hs:Xg w w.1.size A n ls)(hl:∀x∈ls,x.Sz 50000)(hn:n<=100000)(hf:f.Sz 1000)(hm:FaM w w.1.size f v)(hpn:v.pn<=100000)(hon:v.on<=100000):
 Calls Tryz.prog 27 #[.slice A n c,.agg (Qo f v)] w fun e w'=>e=.returned (.bool (Xr ls f))/\Below w.1.size w w':=by
 have H:=jq ((Kp.start hp).new w.1.size rfl (Qo f v) 30);have HC:=jq (fun W (hb:Below w.1.size w W)=>Zgq f v W (hp.here hb) hf (hm.here hb) hpn hon);have HA:=jq (fun W (hb:Below w.1.size w W)=>JK A n c ls W (hp.here hb) (hs.here hb) hl (by omega));have HZ:=jq (QR f v);unfold QI at HA;have HE:=jq (show Xr ls f=(decide (Xm ls=0)&&decide (Za4 f=0)) from rfl);generalize Xr ls f=res at*;generalize Za4 f=ck at*;generalize Xm ls=ca at*;generalize Qo f v=fb at*;clear hp hf hm hpn hon hs hl hn
 by_cases ha:ca=0
 ·subst ha;rw[decide_eq_true rfl,Bool.true_and] at HE;go_enter Tryz.func27,Tryz.ntmps27
  go_wp2_with fail
  refine(HA.out _ H.out.bl).mono ?_;rintro e w1 ⟨rfl,hb1⟩;have H1:=jq (H.out.here hb1);have l1:=QP (H1.out.at_ 0 rfl) HZ.out;clear H
  by_cases h0:ck=0
  ·subst h0;rw[decide_eq_true rfl] at HE;go_wp2_with fail
   refine(HC.out _ H1.out.bl).mono ?_;rintro e w2 ⟨rfl,hb2⟩;go_wp2_with fail
   first|go_ret|skip
   exact⟨Qi HE.out.symm,(H1.out.here hb2).bl⟩
  ·rw[decide_eq_false h0] at HE;have h0':(ck==0)=false:=beq_false_of_ne h0;go_wp2_with fail
   refine(HC.out _ H1.out.bl).mono ?_;rintro e w2 ⟨rfl,hb2⟩;go_wp2_with fail
   first|go_ret|skip
   exact⟨Qi HE.out.symm,(H1.out.here hb2).bl⟩
 ·rw[decide_eq_false ha,Bool.false_and] at HE;have h0':(ca==0)=false:=beq_false_of_ne ha;go_enter Tryz.func27,Tryz.ntmps27
  go_wp2_with fail
  refine(HA.out _ H.out.bl).mono ?_;rintro e w1 ⟨rfl,hb1⟩;go_wp2_with fail
  first|go_ret|skip
  exact⟨Qi HE.out.symm,(H.out.here hb1).bl⟩
end
end Go.Proofs.YtmamnnaiogidaaaGreatDoor
