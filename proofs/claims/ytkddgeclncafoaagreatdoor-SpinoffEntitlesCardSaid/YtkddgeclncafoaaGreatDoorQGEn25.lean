/- Ss1. -/
import Derived.Test.YtkddgeclncafoaaGreatDoorQGEn24
import Derived.Test.YtkddgeclncafoaaGreatDoorQGEn17
set_option maxRecDepth 20000
set_option maxHeartbeats 2000000
namespace Go.Proofs.YtkddgeclncafoaaGreatDoor
open Go.Lib renaming hid→jq
section
open Go.RowKit Go.Shelf
attribute [local go_sem] Oper.semAt_some
attribute [local go_sem ↓] Go.wp_at_zero Go.wp_at_succ Xz
def Vy(f:Fct):Int:=if Xy f≠0 then Xy f else if f.kind≠9 then 7 else 0
theorem Zgm(f:Fct)(v:FaV)(w:World)(hp:Env w)(hf:f.Sz 1000)(hm:FaM w w.1.size f v)(hpn:v.pn<=100000)(hon:v.on<=100000):
 Calls Tryz.prog 45 #[.agg (Qk f v)] w fun e w'=>e=.returned (.int .i64 (Vy f))/\Below w.1.size w w':=by
 have H:=jq ((Kp.start hp).new w.1.size rfl (Qk f v) 30);have hl:=QD (H.out.at_ 0 rfl) (QJ f v);have HC:=jq (fun W (hb:Below w.1.size w W)=>ZhB f v W (hp.here hb) hf (hm.here hb) hpn hon);have HE:=jq (show Vy f=if Xy f≠0 then Xy f else if f.kind≠9 then 7 else 0 from rfl);have HK:=jq (show(Qk f v)[4]?=some (.int .i64 f.kind) from rfl);generalize Vy f=res at*;generalize Xy f=ck at*;generalize Qk f v=fb at*;clear hp hf hm hpn hon
 by_cases h0:ck=0
 ·subst h0;rw[if_neg (by simp)] at HE;go_enter Tryz.func45,Tryz.ntmps45
  go_wp2_with fail
  refine(HC.out _ H.out.bl).mono ?_;rintro e w1 ⟨rfl,hb1⟩;have H1:=jq (H.out.here hb1);have x4:=H1.out.c 0 4 rfl HK.out;clear hl H
  by_cases h9:f.kind=9
  ·rw[if_neg (by simpa using h9)] at HE;rw[h9] at x4;clear h9;go_wp2_with fail
   first|go_ret|skip
   exact⟨Qb HE.out.symm,H1.out.bl⟩
  ·rw[if_pos h9] at HE;have h9':(f.kind==9)=false:=beq_false_of_ne h9;go_wp2_with fail
   first|go_ret|skip
   exact⟨Qb HE.out.symm,H1.out.bl⟩
 ·rw[if_pos h0] at HE;have h0':(ck==0)=false:=beq_false_of_ne h0;go_enter Tryz.func45,Tryz.ntmps45
  go_wp2_with fail
  refine(HC.out _ H.out.bl).mono ?_;rintro e w1 ⟨rfl,hb1⟩;go_wp2_with fail
  first|go_ret|skip
  exact⟨Qb HE.out.symm,(H.out.here hb1).bl⟩
def XF(ls:List Lot)(f:Fct):Bool:=decide (Vm ls=0)&&decide (Vy f=0)
theorem Zb3(A:Option Addr)(n c:Nat)(ls:List Lot)(f:Fct)(v:FaV)(w:World)(hp:Env w)(hs:YI w w.1.size A n ls)(hl:∀x∈ls,x.Sz 50000)(hn:n<=100000)(hf:f.Sz 1000)(hm:FaM w w.1.size f v)(hpn:v.pn<=100000)(hon:v.on<=100000):
 Calls Tryz.prog 16 #[.slice A n c,.agg (Qk f v)] w fun e w'=>e=.returned (.bool (XF ls f))/\Below w.1.size w w':=by
 have H:=jq ((Kp.start hp).new w.1.size rfl (Qk f v) 30);have HC:=jq (fun W (hb:Below w.1.size w W)=>Zgm f v W (hp.here hb) hf (hm.here hb) hpn hon);have HA:=jq (fun W (hb:Below w.1.size w W)=>ZeX A n c ls W (hp.here hb) (hs.here hb) hl (by omega));have HZ:=jq (QJ f v);unfold Qn at HA;have HE:=jq (show XF ls f=(decide (Vm ls=0)&&decide (Vy f=0)) from rfl);generalize XF ls f=res at*;generalize Vy f=ck at*;generalize Vm ls=ca at*;generalize Qk f v=fb at*;clear hp hf hm hpn hon hs hl hn
 by_cases ha:ca=0
 ·subst ha;rw[decide_eq_true rfl,Bool.true_and] at HE;go_enter Tryz.func16,Tryz.ntmps16
  go_wp2_with fail
  refine(HA.out _ H.out.bl).mono ?_;rintro e w1 ⟨rfl,hb1⟩;have H1:=jq (H.out.here hb1);have l1:=QD (H1.out.at_ 0 rfl) HZ.out;clear H
  by_cases h0:ck=0
  ·subst h0;rw[decide_eq_true rfl] at HE;go_wp2_with fail
   refine(HC.out _ H1.out.bl).mono ?_;rintro e w2 ⟨rfl,hb2⟩;go_wp2_with fail
   first|go_ret|skip
   exact⟨Qe HE.out.symm,(H1.out.here hb2).bl⟩
  ·rw[decide_eq_false h0] at HE;have h0':(ck==0)=false:=beq_false_of_ne h0;go_wp2_with fail
   refine(HC.out _ H1.out.bl).mono ?_;rintro e w2 ⟨rfl,hb2⟩;go_wp2_with fail
   first|go_ret|skip
   exact⟨Qe HE.out.symm,(H1.out.here hb2).bl⟩
 ·rw[decide_eq_false ha,Bool.false_and] at HE;have h0':(ca==0)=false:=beq_false_of_ne ha;go_enter Tryz.func16,Tryz.ntmps16
  go_wp2_with fail
  refine(HA.out _ H.out.bl).mono ?_;rintro e w1 ⟨rfl,hb1⟩;go_wp2_with fail
  first|go_ret|skip
  exact⟨Qe HE.out.symm,(H.out.here hb1).bl⟩
end
end Go.Proofs.YtkddgeclncafoaaGreatDoor
