/- Y1. -/
import Derived.Test.YtmfjmngebldanaaGreatDoorQGVe25
import Derived.Test.YtmfjmngebldanaaGreatDoorQGVe28
import Derived.Test.YtmfjmngebldanaaGreatDoorQGVe37
set_option maxRecDepth 100000
set_option maxHeartbeats 4000000
namespace Go.Proofs.YtmfjmngebldanaaGreatDoor
open Go.Lib renaming hid→jq
section
open Go.RowKit Go.Shelf
attribute [local go_sem] Oper.semAt_some
attribute [local go_sem ↓] Go.wp_at_zero Go.wp_at_succ Ql Qz
theorem ZjP{k:Int}(h:k<1\/18<k):Xe k=0:=by unfold Xe;rw[(JA k).2 h]
theorem Zcf(k:Int)(w:World):Calls Tryz.prog 83 #[.int .i64 k] w fun e w'=>e=.returned (.int .i64 (Xe k))/\w=w':=by
 rcases ZjI k with h|⟨hk,h⟩
 ·rcases h with rfl|rfl|rfl|rfl|rfl|rfl|rfl|rfl|rfl|rfl|rfl|rfl|rfl|rfl|rfl|rfl|rfl|rfl
  all_goals
   go_enter Tryz.func83,Tryz.ntmps83
   go_wp2
   go_ret
   exact⟨rfl,rfl⟩
 ·obtain⟨h1,h2,h3,h4,h5,h6,h7,h8,h9,h10,h11,h12,h13,h14,h15,h16,h17,h18⟩:=h
  have HK:=jq (ZjP hk);clear hk;rw[HK.out];go_enter Tryz.func83,Tryz.ntmps83
  go_wp2
  go_ret
  exact⟨rfl,rfl⟩
theorem Zf6{f g:Fct}(h:f.day<g.day):QH f g= -1:=by
 have e:Xr f.day g.day= -1:=if_pos h;unfold QH;rw[e,if_pos (by decide)]
theorem Zf7{f g:Fct}(h:g.day<f.day):QH f g=1:=by
 have e:Xr f.day g.day=1:=by unfold Xr;rw[if_neg (by omega),if_pos h]
 unfold QH;rw[e,if_pos (by decide)]
theorem Zf8{f g:Fct}(h:f.day=g.day):QH f g=if Xr (Xe f.kind) (Xe g.kind)≠0 then Xr (Xe f.kind) (Xe g.kind) else JZ f.key g.key:=by
 have e:Xr f.day g.day=0:=(ZbH _ _).2 h;unfold QH;rw[e,if_neg (by simp)]
theorem ZaE(f g:Fct)(u v:FaV)(w:World)(hp:Env w):Calls Tryz.prog 54 #[.agg (Qb f u),.agg (Qb g v)] w fun e w'=>e=.returned (.int .i64 (QH f g))/\Below w.1.size w w':=by
 have H:=jq (((Kp.start hp).new w.1.size rfl (Qb f u) 43).new (w.1.size+1) (by simp) (Qb g v) 43);have HL:=jq H.out.bl;have x3:=H.out.c 1 3 rfl (show(Qb f u)[3]?=some (.int .i64 f.day) from rfl);have y3:=H.out.c 0 3 rfl (show(Qb g v)[3]?=some (.int .i64 g.day) from rfl);have x4:=H.out.c 1 4 rfl (show(Qb f u)[4]?=some (.int .i64 f.kind) from rfl);have y4:=H.out.c 0 4 rfl (show(Qb g v)[4]?=some (.int .i64 g.kind) from rfl);have x0:=H.out.c 1 0 rfl (show(Qb f u)[0]?=some (.string ⟨f.key.toArray⟩) from rfl);have y0:=H.out.c 0 0 rfl (show(Qb g v)[0]?=some (.string ⟨g.key.toArray⟩) from rfl);have HC1:=jq (fun W=>Zcf f.kind W);have HC2:=jq (fun W=>Zcf g.kind W);generalize Qb f u=fa at*;generalize Qb g v=fb at*;clear hp
 rcases Int.lt_trichotomy f.day g.day with h|h|h
 ·have HR:=jq (Zf6 h);have hn:(f.day !=g.day)=true:=by simp;omega
  rw[HR.out];go_enter Tryz.func54,Tryz.ntmps54
  go_wp2_with fail
  first|go_ret|skip
  exact⟨rfl,HL.out⟩
 rotate_left
 ·have HR:=jq (Zf7 h);have hn:(f.day !=g.day)=true:=by simp;omega
  have h2:¬f.day<g.day:=by omega
  rw[HR.out];go_enter Tryz.func54,Tryz.ntmps54
  go_wp2_with fail
  first|go_ret|skip
  exact⟨rfl,HL.out⟩
 have HE:=jq (Zf8 h);have hn:(f.day !=g.day)=false:=by simp[h]
 rw[HE.out];clear h HE;generalize Xe f.kind=ca at*;generalize Xe g.kind=cb at*
 rcases Int.lt_trichotomy ca cb with h|h|h
 ·have hr:(if Xr ca cb≠0 then Xr ca cb else JZ f.key g.key)= -1:=by rw[show Xr ca cb= -1 from if_pos h,if_pos (by decide)]
  rw[hr];have hn2:(ca !=cb)=true:=by simp;omega
  clear hr;go_enter Tryz.func54,Tryz.ntmps54
  go_upto_region 5 with (fail)
  go_quiet (first|(go_at_call_of 83 (Value.int .i64 f.kind);exact Calls.quiet_of_same ((HC1.out _).mono (fun e w' h=>And.intro h.1 h.2.symm)))|(go_at_call_of 83 (Value.int .i64 g.kind);exact Calls.quiet_of_same ((HC2.out _).mono (fun e w' h=>And.intro h.1 h.2.symm))))
  all_goals
   go_upto_region 6 with (fail)
   go_region_held3 (fun X=>X.cell? ⟨w.1.size,4,none⟩=some (.int .i64 f.kind)/\X.cell? ⟨w.1.size+1,4,none⟩=some (.int .i64 g.kind)) (go_keep) (first|(go_at_call_of 83 (Value.int .i64 f.kind);refine(HC1.out _).mono ?_;rintro e v1 ⟨rfl,rfl⟩)|(go_at_call_of 83 (Value.int .i64 g.kind);refine(HC2.out _).mono ?_;rintro e v2 ⟨rfl,rfl⟩))
   all_goals
    go_wp2_with fail
    first|go_ret|skip
    exact⟨rfl,by first|exact HL.out|exact HL.out.drew|exact HL.out.drew.drew|exact JI HL.out _⟩
 rotate_left
 ·have hr:(if Xr ca cb≠0 then Xr ca cb else JZ f.key g.key)=1:=by rw[show Xr ca cb=1 by unfold Xr;rw[if_neg (by omega),if_pos h],if_pos (by decide)]
  rw[hr];have hn2:(ca !=cb)=true:=by simp;omega
  have hn3:¬ca<cb:=by omega
  clear hr;go_enter Tryz.func54,Tryz.ntmps54
  go_upto_region 5 with (fail)
  go_quiet (first|(go_at_call_of 83 (Value.int .i64 f.kind);exact Calls.quiet_of_same ((HC1.out _).mono (fun e w' h=>And.intro h.1 h.2.symm)))|(go_at_call_of 83 (Value.int .i64 g.kind);exact Calls.quiet_of_same ((HC2.out _).mono (fun e w' h=>And.intro h.1 h.2.symm))))
  all_goals
   go_upto_region 6 with (fail)
   go_region_held3 (fun X=>X.cell? ⟨w.1.size,4,none⟩=some (.int .i64 f.kind)/\X.cell? ⟨w.1.size+1,4,none⟩=some (.int .i64 g.kind)) (go_keep) (first|(go_at_call_of 83 (Value.int .i64 f.kind);refine(HC1.out _).mono ?_;rintro e v1 ⟨rfl,rfl⟩)|(go_at_call_of 83 (Value.int .i64 g.kind);refine(HC2.out _).mono ?_;rintro e v2 ⟨rfl,rfl⟩))
   all_goals
    go_wp2_with fail
    first|go_ret|skip
    exact⟨rfl,by first|exact HL.out|exact HL.out.drew|exact HL.out.drew.drew|exact JI HL.out _⟩
 have hr:(if Xr ca cb≠0 then Xr ca cb else JZ f.key g.key)=JZ f.key g.key:=by rw[(ZbH _ _).2 h,if_neg (by simp)]
 rw[hr];have hn2:(ca !=cb)=false:=by simp[h]
 have HR:=jq (show JZ f.key g.key=if Op.bytesLess f.key g.key=true then-1 else if Op.bytesLess g.key f.key=true then 1 else 0 from rfl);clear hr h;generalize f.key=s at*;generalize g.key=t at*
 rcases Ve s t with h|h|h
 ·have hb:Op.bytesLess s t=true:=(blt s t).2 h
  have hne:(s==t)=false:=by
   rw[beq_eq_false_iff_ne];rintro rfl;exact List.lt_irrefl _ h
  have hne2:(s !=t)=true:=by unfold bne;rw[hne];rfl
  rw[HR.out,if_pos hb];have hb2:Op.bytesLess (⟨s.toArray⟩:ByteArray).toList (⟨t.toArray⟩:ByteArray).toList=true:=by rw[XG,XG];exact hb
  clear h;go_enter Tryz.func54,Tryz.ntmps54
  go_upto_region 5 with (fail)
  go_quiet (first|(go_at_call_of 83 (Value.int .i64 f.kind);exact Calls.quiet_of_same ((HC1.out _).mono (fun e w' h=>And.intro h.1 h.2.symm)))|(go_at_call_of 83 (Value.int .i64 g.kind);exact Calls.quiet_of_same ((HC2.out _).mono (fun e w' h=>And.intro h.1 h.2.symm))))
  all_goals
   go_wp2_with fail
   first|go_ret|skip
   exact⟨rfl,by first|exact HL.out|exact HL.out.drew|exact HL.out.drew.drew|exact JI HL.out _⟩
 ·subst h;have hb:Op.bytesLess s s=false:=(ZaD s s).2 (List.lt_irrefl s);have hne:(s==s)=true:=beq_self_eq_true _;rw[HR.out,if_neg (by rw[hb];decide),if_neg (by rw[hb];decide)];go_enter Tryz.func54,Tryz.ntmps54
  go_upto_region 5 with (fail)
  go_quiet (first|(go_at_call_of 83 (Value.int .i64 f.kind);exact Calls.quiet_of_same ((HC1.out _).mono (fun e w' h=>And.intro h.1 h.2.symm)))|(go_at_call_of 83 (Value.int .i64 g.kind);exact Calls.quiet_of_same ((HC2.out _).mono (fun e w' h=>And.intro h.1 h.2.symm))))
  all_goals
   go_wp2_with fail
   first|go_ret|skip
   exact⟨rfl,by first|exact HL.out|exact HL.out.drew|exact HL.out.drew.drew|exact JI HL.out _⟩
 ·have hb:Op.bytesLess s t=false:=(ZaD s t).2 (Zcb h);have hc:Op.bytesLess t s=true:=(blt t s).2 h
  have hne:(s==t)=false:=by
   rw[beq_eq_false_iff_ne];rintro rfl;exact List.lt_irrefl _ h
  have hne2:(s !=t)=true:=by unfold bne;rw[hne];rfl
  rw[HR.out,if_neg (by rw[hb];decide),if_pos hc];have hb2:Op.bytesLess (⟨s.toArray⟩:ByteArray).toList (⟨t.toArray⟩:ByteArray).toList=false:=by rw[XG,XG];exact hb
  clear h;go_enter Tryz.func54,Tryz.ntmps54
  go_upto_region 5 with (fail)
  go_quiet (first|(go_at_call_of 83 (Value.int .i64 f.kind);exact Calls.quiet_of_same ((HC1.out _).mono (fun e w' h=>And.intro h.1 h.2.symm)))|(go_at_call_of 83 (Value.int .i64 g.kind);exact Calls.quiet_of_same ((HC2.out _).mono (fun e w' h=>And.intro h.1 h.2.symm))))
  all_goals
   go_wp2_with fail
   first|go_ret|skip
   exact⟨rfl,by first|exact HL.out|exact HL.out.drew|exact HL.out.drew.drew|exact JI HL.out _⟩
end
end Go.Proofs.YtmfjmngebldanaaGreatDoor
