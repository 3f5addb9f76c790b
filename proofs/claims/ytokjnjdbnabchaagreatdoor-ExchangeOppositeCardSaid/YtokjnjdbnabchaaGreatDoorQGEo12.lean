/- Gr2, Fmx. -/
import Derived.Test.YtokjnjdbnabchaaGreatDoorQGEo10
import Derived.Test.YtokjnjdbnabchaaGreatDoorQGEo41
import Derived.Test.YtokjnjdbnabchaaGreatDoorQGEo11
set_option maxRecDepth 100000
set_option maxHeartbeats 8000000
namespace Go.Proofs.YtokjnjdbnabchaaGreatDoor
open Go.Lib renaming hid→jq
open Go.RowKit Go.Shelf
section
attribute [local go_sem] Oper.semAt_some
attribute [local go_sem ↓] Go.wp_at_zero Go.wp_at_succ Qv
structure Fct.Gs (f:Fct):Prop where
 key:f.key.length<=24
 inst:f.inst.length<=24
 other:f.other.length<=24
 cur:f.cur.length<=24
 target:f.target.length<=24
 q:f.q.length<=13
 amount:f.amount.length<=13
 fee:f.fee.length<=13
 price:f.price.Sz 13
 ratio:f.ratio.Sz 13
 share:f.share.Sz 13
def GrP(f:Fct)(v:FaV)(e:Ending):Prop:=∃b,e=.returned (.bool b)/\(b=false->f.Gs/\v.pn<=66/\v.on<=10/\(∀p∈f.picks,p.Sz 30)/\∀o∈f.options,o.Sz 24)
theorem JI{α:Type}{p:α->Prop}{xs:List α}{k:Nat}{x:α}(h:xs[k]?=some x)(ha:∀y∈xs.take k,p y)(hx:p x):∀y∈xs.take (k+1),p y:=by
 obtain⟨hk,rfl⟩:=List.getElem?_eq_some_iff.1 h
 rw[List.take_succ_eq_append_getElem hk];intro y hy
 rcases List.mem_append.1 hy with hy|hy
 ·exact ha y hy
 ·rw[List.mem_singleton.1 hy];exact hx
theorem Zbi(f:Fct)(v:FaV)(w:World)(hp:Env w)(hm:FaM w w.1.size f v)(hpn:v.pn<=9223372036854775807)(hon:v.on<=9223372036854775807):
 Calls Tryz.prog 82 #[.agg (Qe f v)] w fun e w'=>GrP f v e/\Below w.1.size w w':=by
 have H:=jq ((Kp.start hp).new w.1.size rfl (Qe f v) 44);have HM:=jq (fun W (hb:Below w.1.size w W)=>hm.here hb);have HLQ:=jq (fun W=>YH f.q W);have HLA:=jq (fun W=>YH f.amount W);have HLE:=jq (fun W=>YH f.fee W);have HLP:=jq (fun W=>Xa f.price W);have HLR:=jq (fun W=>Xa f.ratio W);have HLS:=jq (fun W=>Xa f.share W)
 have HG:=jq (fun(h1:f.key.length<=24) (h2:f.inst.length<=24) (h3:f.other.length<=24) (h4:f.cur.length<=24) (h5:f.target.length<=24) (h6:decide (13<f.q.length)=false) (h7:decide (13<f.amount.length)=false) (h8:decide (13<f.fee.length)=false) (h9:lgF f.price=false) (h10:lgF f.ratio=false) (h11:lgF f.share=false)=>
  (show f.Gs from⟨h1,h2,h3,h4,h5,by simpa using h6,by simpa using h7,by simpa using h8,Xy h9,Xy h10,Xy h11⟩))
 generalize decide (13<f.q.length)=bq at*;generalize decide (13<f.amount.length)=ba at*;generalize decide (13<f.fee.length)=be at*;generalize lgF f.price=bp at*;generalize lgF f.ratio=br at*;generalize lgF f.share=bs at*;have C0:=jq (show(Qe f v)[0]?=some (.string ⟨f.key.toArray⟩) from rfl);have x0:=H.out.c 0 0 rfl C0.out;have C5:=jq (show(Qe f v)[5]?=some (.string ⟨f.inst.toArray⟩) from rfl);have x5:=H.out.c 0 5 rfl C5.out;have C6:=jq (show(Qe f v)[6]?=some (.string ⟨f.other.toArray⟩) from rfl);have x6:=H.out.c 0 6 rfl C6.out;have C7:=jq (show(Qe f v)[7]?=some (.string ⟨f.cur.toArray⟩) from rfl);have x7:=H.out.c 0 7 rfl C7.out;have C8:=jq (show(Qe f v)[8]?=some (.string ⟨f.target.toArray⟩) from rfl);have x8:=H.out.c 0 8 rfl C8.out;have C9:=jq (show(Qe f v)[9]?=some (.string ⟨f.q.toArray⟩) from rfl);have x9:=H.out.c 0 9 rfl C9.out;have C10:=jq (show(Qe f v)[10]?=some (.string ⟨f.amount.toArray⟩) from rfl);have x10:=H.out.c 0 10 rfl C10.out;have C11:=jq (show(Qe f v)[11]?=some (.string ⟨f.fee.toArray⟩) from rfl);have x11:=H.out.c 0 11 rfl C11.out;have C12:=jq (show(Qe f v)[12]?=some (.string ⟨f.price.n.toArray⟩) from rfl);have x12:=H.out.c 0 12 rfl C12.out;have C13:=jq (show(Qe f v)[13]?=some (.string ⟨f.price.d.toArray⟩) from rfl);have x13:=H.out.c 0 13 rfl C13.out;have C14:=jq (show(Qe f v)[14]?=some (.string ⟨f.ratio.n.toArray⟩) from rfl);have C15:=jq (show(Qe f v)[15]?=some (.string ⟨f.ratio.d.toArray⟩) from rfl);have C16:=jq (show(Qe f v)[16]?=some (.string ⟨f.share.n.toArray⟩) from rfl);have C17:=jq (show(Qe f v)[17]?=some (.string ⟨f.share.d.toArray⟩) from rfl);have C18:=jq (show(Qe f v)[18]?=some (.slice v.pA v.pn v.pc) from rfl);have C19:=jq (show(Qe f v)[19]?=some (.slice v.oA v.on v.oc) from rfl);generalize hfb:Qe f v=fb at*;clear hfb hp hm;unfold Qj S at*
 go_enter Tryz.func82,Tryz.ntmps82
 go_upto_region 1 with (fail)
 generalize w.alloc (.cells fb 44)=W at*
 go_cut [63] (fun u wc=>∃b,u=.bool b/\Hid (Kp w [(w.1.size,fb,44)] wc)/\Hid (b=false->f.Gs))
 case first=>
  go_wp2_with (first
   |(go_at_call 127;first
      |(refine(HLQ.out _).mono ?_;rintro e v1 ⟨rfl,rfl⟩;cases bq)
      |(refine(HLA.out _).mono ?_;rintro e v1 ⟨rfl,rfl⟩;cases ba)
      |(refine(HLE.out _).mono ?_;rintro e v1 ⟨rfl,rfl⟩;cases be))
   |(go_at_call 128;first
      |(refine(HLP.out _).mono ?_;rintro e w2 ⟨rfl,hb2⟩;have H2:=jq (H.out.here hb2);have y14:=H2.out.c 0 14 rfl C14.out;have y15:=H2.out.c 0 15 rfl C15.out;cases bp)
      |(refine(HLR.out _).mono ?_;rintro e w3 ⟨rfl,hb3⟩;have H3:=jq (H2.out.here hb3);have y16:=H3.out.c 0 16 rfl C16.out;have y17:=H3.out.c 0 17 rfl C17.out;cases br)
      |(refine(HLS.out _).mono ?_;rintro e w4 ⟨rfl,hb4⟩;have H4:=jq (H3.out.here hb4);cases bs)))
  all_goals
   go_meet
   refine⟨_,rfl,by first|exact H4.out|exact H3.out|exact H2.out|exact H.out,fun h=> ?_⟩
   first|(cases h;done)|exact HG.out (by omega) (by omega) (by omega) (by omega) (by omega) (by first|rfl|trivial) (by first|rfl|trivial) (by first|rfl|trivial) (by first|rfl|trivial) (by first|rfl|trivial) (by first|rfl|trivial)
 case rest=>
 obtain⟨b,rfl,HK,HS⟩:=hcut
 clear HLQ HLA HLE HLP HLR HLS HG x0 x5 x6 x7 x8 x9 x10 x11 x12 x13 H
 cases b with
 |true=>
  go_wp2_with fail
  first|go_ret|skip
  exact⟨⟨true,rfl,fun h=>by cases h⟩,HK.out.bl⟩
 |false=>
 have HF:=jq (HS.out rfl);clear HS;have x18:=HK.out.c 0 18 rfl C18.out;have x19:=HK.out.c 0 19 rfl C19.out;go_upto_region 3 with (fail)
 go_cut [97] (fun u wx=>∃b,u=.bool b/\wx=wc/\Hid (b=false->v.pn<=66/\v.on<=10))
 case first=>
  go_wp2_with fail
  all_goals
   go_meet
   refine⟨_,rfl,rfl,fun h=> ?_⟩
   first|(cases h;done)|(constructor<;>omega)|(simp at h;constructor<;>omega)
 case rest=>
 obtain⟨b,rfl,rfl,HS⟩:=hcut
 cases b with
 |true=>
  go_wp2_with fail
  first|go_ret|skip
  exact⟨⟨true,rfl,fun h=>by cases h⟩,HK.out.bl⟩
 |false=>
 have hsz:=HS.out rfl;have hpn':=hsz.1;have hon':=hsz.2;clear HS hpn hon hsz;go_wp2_with fail
 go_loopw [3] (fun i wr=>∃k:Nat,k<=v.pn/\i=.int .i64 k/\Hid (∀p∈f.picks.take k,p.Sz 30)/\Hid (Kp w [(w.1.size,fb,44)] wr)) (fun i _=>v.pn-(intOf i).toNat)
 case atStart=>exact⟨0,Nat.zero_le _,rfl,(show ∀p∈f.picks.take 0,p.Sz 30 from fun p h=>by simp at h),HK.out⟩
 case round=>
  obtain⟨k,hk,rfl,HAN,HKr⟩:=hrel
  have x18':=HKr.out.c 0 18 rfl C18.out
  by_cases hlt:k<v.pn
  ·obtain⟨b0,off,x,hA,hb,hx,d0,d1⟩:=(HM.out wr HKr.out.bl).pk.pk hlt
   rw[hA] at x18';have HX:=jq hx;have HLX:=jq (fun W=>YH x.q W);have HBX:=jq (show decide (13<x.q.length)=false->x.q.length<=30 from fun h=>by simp at h;omega);generalize decide (13<x.q.length)=bx at*;clear hA hb hx;unfold S at*
   by_cases h1:30<x.lot.length
   ·have a1:(30:Int)<(x.lot.length:Int):=by omega
    clear h1;go_wp2_with fail
    first|go_ret|skip
    exact⟨⟨true,rfl,fun h=>by cases h⟩,HKr.out.bl⟩
   ·have a1:¬(30:Int)<(x.lot.length:Int):=by omega
    cases bx with
    |true=>
     go_wp2_with (go_at_call 127;refine(HLX.out _).mono ?_;rintro e v1 ⟨rfl,rfl⟩)
     first|go_ret|skip
     exact⟨⟨true,rfl,fun h=>by cases h⟩,HKr.out.bl⟩
    |false=>
     have HSX:=jq (show x.Sz 30 from⟨by omega,HBX.out rfl⟩);clear HBX h1;go_wp2_with (go_at_call 127;refine(HLX.out _).mono ?_;rintro e v1 ⟨rfl,rfl⟩)
     go_roundw
     case rel=>exact⟨k+1,by omega,by go_num,JI HX.out HAN.out HSX.out,HKr.out⟩
     case measure=>simp[intOf];omega
  ·have HPK:=jq (show ∀p∈f.picks,p.Sz 30 by have h1:=HAN.out;have h2:=(HM.out wr HKr.out.bl).pk.1;rw[List.take_of_length_le (by omega)] at h1;exact h1);have ek:k=v.pn:=by omega
   clear HAN hlt hk;subst ek;go_wp2_with fail
   go_loopw [4] (fun i wq=>∃k:Nat,k<=v.on/\i=.int .i64 k/\Hid (∀p∈f.options.take k,p.Sz 24)/\Hid (Kp w [(w.1.size,fb,44)] wq)) (fun i _=>v.on-(intOf i).toNat)
   case atStart=>exact⟨0,Nat.zero_le _,rfl,(show ∀p∈f.options.take 0,p.Sz 24 from fun p h=>by simp at h),HKr.out⟩
   case round=>
    obtain⟨q,hq,rfl,HAO,HKq⟩:=hrel
    have x19':=HKq.out.c 0 19 rfl C19.out
    by_cases hlt2:q<v.on
    ·obtain⟨b0,off,y,hA,hb,hy,d0,d1,d2,d3,d4,d5,d6⟩:=(HM.out _ HKq.out.bl).op.opt hlt2
     rw[hA] at x19';have HY:=jq hy;have HL1:=jq (fun W=>Xa y.ratio W);have HL2:=jq (fun W=>Xa y.price W);have HL3:=jq (fun W=>Xa y.value W);have HYS:=jq (fun(h0:y.other.length<=24) (h1:lgF y.ratio=false) (h2:lgF y.price=false) (h3:lgF y.value=false)=>(show y.Sz 24 from⟨h0,(Xy h1).more (by omega),(Xy h2).more (by omega),(Xy h3).more (by omega)⟩));have HB:=jq (HKq.out.new _ rfl #[.string ⟨y.other.toArray⟩,.string ⟨y.ratio.n.toArray⟩,.string ⟨y.ratio.d.toArray⟩,.string ⟨y.price.n.toArray⟩,.string ⟨y.price.d.toArray⟩,.string ⟨y.value.n.toArray⟩,.string ⟨y.value.d.toArray⟩] 162);generalize lgF y.ratio=b1 at*;generalize lgF y.price=b2 at*;generalize lgF y.value=b3 at*;clear hA hb hy;unfold Qj S at*
     go_upto_region 14 with (fail)
     generalize wr.alloc _=W1 at*;clear d0 d1 d2 d3 d4 d5 d6 x19';generalize hb5:wr.1.size=b5 at*;clear hb5;have c0:=HB.out.c 0 0 rfl rfl;have c1:=HB.out.c 0 1 rfl rfl;have c2:=HB.out.c 0 2 rfl rfl
     go_wp2_with (go_at_call 128;first
      |(refine(HL1.out _).mono ?_;rintro e w2 ⟨rfl,hb2⟩;have H2:=jq (HB.out.here hb2);have e3:=H2.out.c 0 3 rfl rfl;have e4:=H2.out.c 0 4 rfl rfl;cases b1)
      |(refine(HL2.out _).mono ?_;rintro e w3 ⟨rfl,hb3⟩;have H3:=jq (H2.out.here hb3);have e5:=H3.out.c 0 5 rfl rfl;have e6:=H3.out.c 0 6 rfl rfl;cases b2)
      |(refine(HL3.out _).mono ?_;rintro e w4 ⟨rfl,hb4⟩;have H4:=jq (H3.out.here hb4);cases b3))
     ·go_roundw
      case rel=>exact⟨q+1,by omega,by go_num,JI HY.out HAO.out (HYS.out (by omega) (by first|rfl|trivial) (by first|rfl|trivial) (by first|rfl|trivial)),H4.out.tail⟩
      case measure=>simp[intOf];omega
     all_goals
      first|go_ret|skip
      exact⟨⟨true,rfl,fun h=>by cases h⟩,by first|exact H4.out.bl|exact H3.out.bl|exact H2.out.bl|exact HB.out.bl⟩
    ·have HOP:=jq (show ∀p∈f.options,p.Sz 24 by have h1:=HAO.out;have h2:=(HM.out _ HKq.out.bl).op.1;rw[List.take_of_length_le (by omega)] at h1;exact h1);go_wp2_with fail
     first|go_ret|skip
     exact⟨⟨false,rfl,fun _=>⟨HF.out,hpn',hon',HPK.out,HOP.out⟩⟩,HKq.out.bl⟩
end
section
structure Fct.Max (f:Fct):Prop where
 price:f.price.n.length<=maxLen/\f.price.d.length<=maxLen
 ratio:f.ratio.n.length<=maxLen/\f.ratio.d.length<=maxLen
 share:f.share.n.length<=maxLen/\f.share.d.length<=maxLen
 stamp:I64 f.stamp
 day:I64 f.day
 kind:I64 f.kind
 choice:I64 f.choice
theorem Fct.Gs.sz0{f:Fct}(h:f.Gs)(hm:f.Max)(hp:∀p∈f.picks,p.Sz 30)(ho:∀o∈f.options,o.Sz 24):f.Sz 1000:=
 ⟨Nat.le_trans h.key (by omega),Nat.le_trans h.inst (by omega),Nat.le_trans h.other (by omega),Nat.le_trans h.cur (by omega),Nat.le_trans h.target (by omega),Nat.le_trans h.q (by omega),Nat.le_trans h.amount (by omega),Nat.le_trans h.fee (by omega),
  h.price.more (by omega),h.ratio.more (by omega),h.share.more (by omega),fun p hx=>⟨Nat.le_trans (hp p hx).lot (by omega),Nat.le_trans (hp p hx).q (by omega)⟩,
  fun o hx=>⟨Nat.le_trans (ho o hx).other (by omega),(ho o hx).ratio.more (by omega),(ho o hx).price.more (by omega),(ho o hx).value.more (by omega)⟩,hm.stamp,hm.day,hm.kind,hm.choice⟩
end
end Go.Proofs.YtokjnjdbnabchaaGreatDoor
