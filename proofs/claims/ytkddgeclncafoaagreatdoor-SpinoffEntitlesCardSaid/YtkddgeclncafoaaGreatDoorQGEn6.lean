/- Gr2, Ss3, Ss0, Rfa, Rfc, CaEn, CSpinoffEntitles. -/
import Derived.Test.YtkddgeclncafoaaGreatDoorQGEn20
import Derived.Test.YtkddgeclncafoaaGreatDoorQGEn28
import Derived.Test.YtkddgeclncafoaaGreatDoorCards
import Derived.Test.YtkddgeclncafoaaGreatDoorTie
import Derived.Lib.SmallJoins
import Derived.LaidSub
import Derived.ProofKit
import Derived.OpenShut
import Derived.Carry
import Derived.LaidMore
import Derived.Deep.Slices
import Derived.Deep.DeepHandedRow
set_option maxRecDepth 100000
set_option maxHeartbeats 8000000
namespace Go.Proofs.YtkddgeclncafoaaGreatDoor
open Go.Lib renaming hid→jq
section
open Go.RowKit Go.Shelf
attribute [local go_sem] Oper.semAt_some
attribute [local go_sem ↓] Go.wp_at_zero Go.wp_at_succ Xz
structure Fct.Gs (f:Fct):Prop where
 key:f.key.length<=24
 inst:f.inst.length<=24
 other:f.other.length<=24
 cur:f.cur.length<=24
 target:f.target.length<=24
 q:f.q.length<=13
 amount:f.amount.length<=13
 fee:f.fee.length<=13
 price:f.price.Sz 13
 ratio:f.ratio.Sz 13
 share:f.share.Sz 13
def GrP(f:Fct)(v:FaV)(e:Ending):Prop:=∃b,e=.returned (.bool b)/\(b=false->f.Gs/\v.pn<=66/\v.on<=10/\(∀p∈f.picks,p.Sz 30)/\∀o∈f.options,o.Sz 24)
theorem ZfL{α:Type}{p:α->Prop}{xs:List α}{k:Nat}{x:α}(h:xs[k]?=some x)(ha:∀y∈xs.take k,p y)(hx:p x):∀y∈xs.take (k+1),p y:=by
 obtain⟨hk,rfl⟩:=List.getElem?_eq_some_iff.1 h
 rw[List.take_succ_eq_append_getElem hk];intro y hy
 rcases List.mem_append.1 hy with hy|hy
 ·exact ha y hy
 ·rw[List.mem_singleton.1 hy];exact hx
theorem ZeF(f:Fct)(v:FaV)(w:World)(hp:Env w)(hm:FaM w w.1.size f v)(hpn:v.pn<=9223372036854775807)(hon:v.on<=9223372036854775807):
 Calls Tryz.prog 12 #[.agg (Qk f v)] w fun e w'=>GrP f v e/\Below w.1.size w w':=by
 have H:=jq ((Kp.start hp).new w.1.size rfl (Qk f v) 30);have HM:=jq (fun W (hb:Below w.1.size w W)=>hm.here hb);have HLQ:=jq (fun W=>Yr f.q W);have HLA:=jq (fun W=>Yr f.amount W);have HLE:=jq (fun W=>Yr f.fee W);have HLP:=jq (fun W=>XY f.price W);have HLR:=jq (fun W=>XY f.ratio W);have HLS:=jq (fun W=>XY f.share W)
 have HG:=jq (fun(h1:f.key.length<=24) (h2:f.inst.length<=24) (h3:f.other.length<=24) (h4:f.cur.length<=24) (h5:f.target.length<=24) (h6:decide (13<f.q.length)=false) (h7:decide (13<f.amount.length)=false) (h8:decide (13<f.fee.length)=false) (h9:lgF f.price=false) (h10:lgF f.ratio=false) (h11:lgF f.share=false)=>
  (show f.Gs from⟨h1,h2,h3,h4,h5,by simpa using h6,by simpa using h7,by simpa using h8,Vf h9,Vf h10,Vf h11⟩))
 generalize decide (13<f.q.length)=bq at*;generalize decide (13<f.amount.length)=ba at*;generalize decide (13<f.fee.length)=be at*;generalize lgF f.price=bp at*;generalize lgF f.ratio=br at*;generalize lgF f.share=bs at*;have C0:=jq (show(Qk f v)[0]?=some (.string ⟨f.key.toArray⟩) from rfl);have x0:=H.out.c 0 0 rfl C0.out;have C5:=jq (show(Qk f v)[5]?=some (.string ⟨f.inst.toArray⟩) from rfl);have x5:=H.out.c 0 5 rfl C5.out;have C6:=jq (show(Qk f v)[6]?=some (.string ⟨f.other.toArray⟩) from rfl);have x6:=H.out.c 0 6 rfl C6.out;have C7:=jq (show(Qk f v)[7]?=some (.string ⟨f.cur.toArray⟩) from rfl);have x7:=H.out.c 0 7 rfl C7.out;have C8:=jq (show(Qk f v)[8]?=some (.string ⟨f.target.toArray⟩) from rfl);have x8:=H.out.c 0 8 rfl C8.out;have C9:=jq (show(Qk f v)[9]?=some (.string ⟨f.q.toArray⟩) from rfl);have x9:=H.out.c 0 9 rfl C9.out;have C10:=jq (show(Qk f v)[10]?=some (.string ⟨f.amount.toArray⟩) from rfl);have x10:=H.out.c 0 10 rfl C10.out;have C11:=jq (show(Qk f v)[11]?=some (.string ⟨f.fee.toArray⟩) from rfl);have x11:=H.out.c 0 11 rfl C11.out;have C12:=jq (show(Qk f v)[12]?=some (.string ⟨f.price.n.toArray⟩) from rfl);have x12:=H.out.c 0 12 rfl C12.out;have C13:=jq (show(Qk f v)[13]?=some (.string ⟨f.price.d.toArray⟩) from rfl);have x13:=H.out.c 0 13 rfl C13.out;have C14:=jq (show(Qk f v)[14]?=some (.string ⟨f.ratio.n.toArray⟩) from rfl);have C15:=jq (show(Qk f v)[15]?=some (.string ⟨f.ratio.d.toArray⟩) from rfl);have C16:=jq (show(Qk f v)[16]?=some (.string ⟨f.share.n.toArray⟩) from rfl);have C17:=jq (show(Qk f v)[17]?=some (.string ⟨f.share.d.toArray⟩) from rfl);have C18:=jq (show(Qk f v)[18]?=some (.slice v.pA v.pn v.pc) from rfl);have C19:=jq (show(Qk f v)[19]?=some (.slice v.oA v.on v.oc) from rfl);generalize hfb:Qk f v=fb at*;clear hfb hp hm;unfold Qq S at*
 go_enter Tryz.func12,Tryz.ntmps12
 go_upto_region 1 with (fail)
 generalize w.alloc (.cells fb 30)=W at*
 go_cut [63] (fun u wc=>∃b,u=.bool b/\Hid (Kp w [(w.1.size,fb,30)] wc)/\Hid (b=false->f.Gs))
 case first=>
  go_wp2_with (first
   |(go_at_call 35;first
      |(refine(HLQ.out _).mono ?_;rintro e v1 ⟨rfl,rfl⟩;cases bq)
      |(refine(HLA.out _).mono ?_;rintro e v1 ⟨rfl,rfl⟩;cases ba)
      |(refine(HLE.out _).mono ?_;rintro e v1 ⟨rfl,rfl⟩;cases be))
   |(go_at_call 36;first
      |(refine(HLP.out _).mono ?_;rintro e w2 ⟨rfl,hb2⟩;have H2:=jq (H.out.here hb2);have y14:=H2.out.c 0 14 rfl C14.out;have y15:=H2.out.c 0 15 rfl C15.out;cases bp)
      |(refine(HLR.out _).mono ?_;rintro e w3 ⟨rfl,hb3⟩;have H3:=jq (H2.out.here hb3);have y16:=H3.out.c 0 16 rfl C16.out;have y17:=H3.out.c 0 17 rfl C17.out;cases br)
      |(refine(HLS.out _).mono ?_;rintro e w4 ⟨rfl,hb4⟩;have H4:=jq (H3.out.here hb4);cases bs)))
  all_goals
   go_meet
   refine⟨_,rfl,by first|exact H4.out|exact H3.out|exact H2.out|exact H.out,fun h=> ?_⟩
   first|(cases h;done)|exact HG.out (by omega) (by omega) (by omega) (by omega) (by omega) (by first|rfl|trivial) (by first|rfl|trivial) (by first|rfl|trivial) (by first|rfl|trivial) (by first|rfl|trivial) (by first|rfl|trivial)
 case rest=>
 obtain⟨b,rfl,HK,HS⟩:=hcut
 clear HLQ HLA HLE HLP HLR HLS HG x0 x5 x6 x7 x8 x9 x10 x11 x12 x13 H
 cases b with
 |true=>
  go_wp2_with fail
  first|go_ret|skip
  exact⟨⟨true,rfl,fun h=>by cases h⟩,HK.out.bl⟩
 |false=>
 have HF:=jq (HS.out rfl);clear HS;have x18:=HK.out.c 0 18 rfl C18.out;have x19:=HK.out.c 0 19 rfl C19.out;go_upto_region 3 with (fail)
 go_cut [97] (fun u wx=>∃b,u=.bool b/\wx=wc/\Hid (b=false->v.pn<=66/\v.on<=10))
 case first=>
  go_wp2_with fail
  all_goals
   go_meet
   refine⟨_,rfl,rfl,fun h=> ?_⟩
   first|(cases h;done)|(constructor<;>omega)|(simp at h;constructor<;>omega)
 case rest=>
 obtain⟨b,rfl,rfl,HS⟩:=hcut
 cases b with
 |true=>
  go_wp2_with fail
  first|go_ret|skip
  exact⟨⟨true,rfl,fun h=>by cases h⟩,HK.out.bl⟩
 |false=>
 have hsz:=HS.out rfl;have hpn':=hsz.1;have hon':=hsz.2;clear HS hpn hon hsz;go_wp2_with fail
 go_loopw [3] (fun i wr=>∃k:Nat,k<=v.pn/\i=.int .i64 k/\Hid (∀p∈f.picks.take k,p.Sz 30)/\Hid (Kp w [(w.1.size,fb,30)] wr)) (fun i _=>v.pn-(intOf i).toNat)
 case atStart=>exact⟨0,Nat.zero_le _,rfl,(show ∀p∈f.picks.take 0,p.Sz 30 from fun p h=>by simp at h),HK.out⟩
 case round=>
  obtain⟨k,hk,rfl,HAN,HKr⟩:=hrel
  have x18':=HKr.out.c 0 18 rfl C18.out
  by_cases hlt:k<v.pn
  ·obtain⟨b0,off,x,hA,hb,hx,d0,d1⟩:=(HM.out wr HKr.out.bl).pk.pk hlt
   rw[hA] at x18';have HX:=jq hx;have HLX:=jq (fun W=>Yr x.q W);have HBX:=jq (show decide (13<x.q.length)=false->x.q.length<=30 from fun h=>by simp at h;omega);generalize decide (13<x.q.length)=bx at*;clear hA hb hx;unfold S at*
   by_cases h1:30<x.lot.length
   ·have a1:(30:Int)<(x.lot.length:Int):=by omega
    clear h1;go_wp2_with fail
    first|go_ret|skip
    exact⟨⟨true,rfl,fun h=>by cases h⟩,HKr.out.bl⟩
   ·have a1:¬(30:Int)<(x.lot.length:Int):=by omega
    cases bx with
    |true=>
     go_wp2_with (go_at_call 35;refine(HLX.out _).mono ?_;rintro e v1 ⟨rfl,rfl⟩)
     first|go_ret|skip
     exact⟨⟨true,rfl,fun h=>by cases h⟩,HKr.out.bl⟩
    |false=>
     have HSX:=jq (show x.Sz 30 from⟨by omega,HBX.out rfl⟩);clear HBX h1;go_wp2_with (go_at_call 35;refine(HLX.out _).mono ?_;rintro e v1 ⟨rfl,rfl⟩)
     go_roundw
     case rel=>exact⟨k+1,by omega,by go_num,ZfL HX.out HAN.out HSX.out,HKr.out⟩
     case measure=>simp[intOf];omega
  ·have HPK:=jq (show ∀p∈f.picks,p.Sz 30 by have h1:=HAN.out;have h2:=(HM.out wr HKr.out.bl).pk.1;rw[List.take_of_length_le (by omega)] at h1;exact h1);have ek:k=v.pn:=by omega
   clear HAN hlt hk;subst ek;go_wp2_with fail
   go_loopw [4] (fun i wq=>∃k:Nat,k<=v.on/\i=.int .i64 k/\Hid (∀p∈f.options.take k,p.Sz 24)/\Hid (Kp w [(w.1.size,fb,30)] wq)) (fun i _=>v.on-(intOf i).toNat)
   case atStart=>exact⟨0,Nat.zero_le _,rfl,(show ∀p∈f.options.take 0,p.Sz 24 from fun p h=>by simp at h),HKr.out⟩
   case round=>
    obtain⟨q,hq,rfl,HAO,HKq⟩:=hrel
    have x19':=HKq.out.c 0 19 rfl C19.out
    by_cases hlt2:q<v.on
    ·obtain⟨b0,off,y,hA,hb,hy,d0,d1,d2,d3,d4,d5,d6⟩:=(HM.out _ HKq.out.bl).op.opt hlt2
     rw[hA] at x19';have HY:=jq hy;have HL1:=jq (fun W=>XY y.ratio W);have HL2:=jq (fun W=>XY y.price W);have HL3:=jq (fun W=>XY y.value W);have HYS:=jq (fun(h0:y.other.length<=24) (h1:lgF y.ratio=false) (h2:lgF y.price=false) (h3:lgF y.value=false)=>(show y.Sz 24 from⟨h0,(Vf h1).more (by omega),(Vf h2).more (by omega),(Vf h3).more (by omega)⟩));have HB:=jq (HKq.out.new _ rfl #[.string ⟨y.other.toArray⟩,.string ⟨y.ratio.n.toArray⟩,.string ⟨y.ratio.d.toArray⟩,.string ⟨y.price.n.toArray⟩,.string ⟨y.price.d.toArray⟩,.string ⟨y.value.n.toArray⟩,.string ⟨y.value.d.toArray⟩] 67);generalize lgF y.ratio=b1 at*;generalize lgF y.price=b2 at*;generalize lgF y.value=b3 at*;clear hA hb hy;unfold Qq S at*
     go_upto_region 14 with (fail)
     generalize wr.alloc _=W1 at*;clear d0 d1 d2 d3 d4 d5 d6 x19';generalize hb5:wr.1.size=b5 at*;clear hb5;have c0:=HB.out.c 0 0 rfl rfl;have c1:=HB.out.c 0 1 rfl rfl;have c2:=HB.out.c 0 2 rfl rfl
     go_wp2_with (go_at_call 36;first
      |(refine(HL1.out _).mono ?_;rintro e w2 ⟨rfl,hb2⟩;have H2:=jq (HB.out.here hb2);have e3:=H2.out.c 0 3 rfl rfl;have e4:=H2.out.c 0 4 rfl rfl;cases b1)
      |(refine(HL2.out _).mono ?_;rintro e w3 ⟨rfl,hb3⟩;have H3:=jq (H2.out.here hb3);have e5:=H3.out.c 0 5 rfl rfl;have e6:=H3.out.c 0 6 rfl rfl;cases b2)
      |(refine(HL3.out _).mono ?_;rintro e w4 ⟨rfl,hb4⟩;have H4:=jq (H3.out.here hb4);cases b3))
     ·go_roundw
      case rel=>exact⟨q+1,by omega,by go_num,ZfL HY.out HAO.out (HYS.out (by omega) (by first|rfl|trivial) (by first|rfl|trivial) (by first|rfl|trivial)),H4.out.tail⟩
      case measure=>simp[intOf];omega
     all_goals
      first|go_ret|skip
      exact⟨⟨true,rfl,fun h=>by cases h⟩,by first|exact H4.out.bl|exact H3.out.bl|exact H2.out.bl|exact HB.out.bl⟩
    ·have HOP:=jq (show ∀p∈f.options,p.Sz 24 by have h1:=HAO.out;have h2:=(HM.out _ HKq.out.bl).op.1;rw[List.take_of_length_le (by omega)] at h1;exact h1);go_wp2_with fail
     first|go_ret|skip
     exact⟨⟨false,rfl,fun _=>⟨HF.out,hpn',hon',HPK.out,HOP.out⟩⟩,HKq.out.bl⟩
end
section
open Go.RowKit Go.Shelf
attribute [local go_sem] Oper.semAt_some
attribute [local go_sem ↓] Go.wp_at_zero Go.wp_at_succ Xz
def LgP(ls:List Lot)(f:Fct)(v:FaV)(e:Ending):Prop:=∃b,e=.returned (.bool b)/\(b=false->Zeo ls=false/\f.Gs/\v.pn<=66/\v.on<=10/\(∀p∈f.picks,p.Sz 30)/\∀o∈f.options,o.Sz 24)
theorem ZeG(A:Option Addr)(n c:Nat)(ls:List Lot)(f:Fct)(v:FaV)(w:World)(hp:Env w)(hs:YI w w.1.size A n ls)(hn:n<=9223372036854775807)(hm:FaM w w.1.size f v)(hpn:v.pn<=9223372036854775807)(hon:v.on<=9223372036854775807)
 (hx:∀x∈[f.ratio,f.share,f.price],x.n.length<=maxLen/\x.d.length<=maxLen):
 Calls Tryz.prog 4 #[.slice A n c,.agg (Qk f v)] w fun e w'=>LgP ls f v e/\Below w.1.size w w':=by
 have H:=jq ((Kp.start hp).new w.1.size rfl (Qk f v) 30);have HG:=jq (fun W (hb:Below w.1.size w W)=>ZgK A n c ls W (hs.here hb) hn);have HZ:=jq (fun W (hb:Below w.1.size w W)=>ZeF f v W (hp.here hb) (hm.here hb) hpn hon)
 have HL:=jq (show ∀W:World,Calls Tryz.prog 13 #[.slice (some ⟨W.1.size,0,none⟩) 3 3] (W.alloc (.cells #[.string ⟨f.ratio.n.toArray⟩,.string ⟨f.ratio.d.toArray⟩,.string ⟨f.share.n.toArray⟩,.string ⟨f.share.d.toArray⟩,.string ⟨f.price.n.toArray⟩,.string ⟨f.price.d.toArray⟩] 26)) (fun e w'=>e=.returned (.bool (YP f.ratio||YP f.share||YP f.price))/\Below W.1.size W w') from fun W=>by
  have h1:Frs (W.alloc (.cells #[.string ⟨f.ratio.n.toArray⟩,.string ⟨f.ratio.d.toArray⟩,.string ⟨f.share.n.toArray⟩,.string ⟨f.share.d.toArray⟩,.string ⟨f.price.n.toArray⟩,.string ⟨f.price.d.toArray⟩] 26)) (W.1.size+1) (some ⟨W.1.size,0,none⟩) 3 [f.ratio,f.share,f.price]:=Sl.lit W _ 26 [f.ratio,f.share,f.price] rfl Zby;have hb0:Below W.1.size W (W.alloc (.cells #[.string ⟨f.ratio.n.toArray⟩,.string ⟨f.ratio.d.toArray⟩,.string ⟨f.share.n.toArray⟩,.string ⟨f.share.d.toArray⟩,.string ⟨f.price.n.toArray⟩,.string ⟨f.price.d.toArray⟩] 26)):=Below.alloc (Below.refl _ W) (Nat.le_refl _) _;exact(Zks _ 3 f.ratio f.share f.price _ (h1.more (by simp)) hx).mono fun e w' ⟨he,hb⟩=>⟨he,hb0.trans (hb.mono hb0.size)⟩)
 have HFB:=jq (QJ f v);have K12:=jq (show(Qk f v)[12]?=some (.string ⟨f.price.n.toArray⟩) from rfl);have K13:=jq (show(Qk f v)[13]?=some (.string ⟨f.price.d.toArray⟩) from rfl);have K14:=jq (show(Qk f v)[14]?=some (.string ⟨f.ratio.n.toArray⟩) from rfl);have K15:=jq (show(Qk f v)[15]?=some (.string ⟨f.ratio.d.toArray⟩) from rfl);have K16:=jq (show(Qk f v)[16]?=some (.string ⟨f.share.n.toArray⟩) from rfl);have K17:=jq (show(Qk f v)[17]?=some (.string ⟨f.share.d.toArray⟩) from rfl);obtain⟨post,hpost⟩:∃post:Ending->World->Prop,post=fun e w'=>LgP ls f v e/\Below w.1.size w w':=⟨_,rfl⟩
 rw[<-hpost];have HPO:=jq hpost;clear hpost;obtain⟨g,hg⟩:∃g,g=Zeo ls:=⟨_,rfl⟩
 rw[<-hg] at HG;have HGG:=jq hg;generalize (YP f.ratio||YP f.share||YP f.price)=bb at*;generalize Qk f v=fb at*;clear hp hs hn hm hpn hon hx hg;unfold S at*
 cases g with
 |true=>
  go_enter Tryz.func4,Tryz.ntmps4
  go_wp2_with fail
  refine(HG.out _ H.out.bl).mono ?_;rintro e w1 ⟨rfl,hb1⟩;go_wp2_with fail
  first|go_ret|skip
  rw[HPO.out];exact⟨⟨true,rfl,fun h=>by cases h⟩,(H.out.here hb1).bl⟩
 |false=>
  go_enter Tryz.func4,Tryz.ntmps4
  go_wp2_with fail
  refine(HG.out _ H.out.bl).mono ?_;rintro e w1 ⟨rfl,hb1⟩;have H1:=jq (H.out.here hb1);clear H hb1;have l1:=QD (H1.out.at_ 0 rfl) HFB.out;go_wp2_with fail
  refine(HZ.out _ H1.out.bl).mono ?_;rintro e w2 ⟨⟨b,rfl,hP⟩,hb2⟩;have HP:=jq hP;have H2:=jq (H1.out.here hb2);clear hP hb2 l1 H1
  cases b with
  |true=>
   go_wp2_with fail
   first|go_ret|skip
   rw[HPO.out];exact⟨⟨true,rfl,fun h=>by cases h⟩,H2.out.bl⟩
  |false=>
   have x12:=H2.out.c 0 12 rfl K12.out;have x13:=H2.out.c 0 13 rfl K13.out;have x14:=H2.out.c 0 14 rfl K14.out;have x15:=H2.out.c 0 15 rfl K15.out;have x16:=H2.out.c 0 16 rfl K16.out;have x17:=H2.out.c 0 17 rfl K17.out;have HPP:=jq (HP.out rfl);clear HP;go_wp2_with fail
   refine(HL.out _).mono ?_;rintro e w3 ⟨rfl,hb3⟩;go_wp2_with fail
   first|go_ret|skip
   rw[HPO.out];exact⟨⟨_,rfl,fun _=>⟨HGG.out.symm,HPP.out⟩⟩,(H2.out.here hb3).bl⟩
end
section
open Go.RowKit Go.Shelf
structure Fct.Max (f:Fct):Prop where
 price:f.price.n.length<=maxLen/\f.price.d.length<=maxLen
 ratio:f.ratio.n.length<=maxLen/\f.ratio.d.length<=maxLen
 share:f.share.n.length<=maxLen/\f.share.d.length<=maxLen
 stamp:I64 f.stamp
 day:I64 f.day
 kind:I64 f.kind
 choice:I64 f.choice
theorem Fct.Gs.sz0{f:Fct}(h:f.Gs)(hm:f.Max)(hp:∀p∈f.picks,p.Sz 30)(ho:∀o∈f.options,o.Sz 24):f.Sz 1000:=
 ⟨Nat.le_trans h.key (by omega),Nat.le_trans h.inst (by omega),Nat.le_trans h.other (by omega),Nat.le_trans h.cur (by omega),Nat.le_trans h.target (by omega),Nat.le_trans h.q (by omega),Nat.le_trans h.amount (by omega),Nat.le_trans h.fee (by omega),
  h.price.more (by omega),h.ratio.more (by omega),h.share.more (by omega),fun p hx=>⟨Nat.le_trans (hp p hx).lot (by omega),Nat.le_trans (hp p hx).q (by omega)⟩,
  fun o hx=>⟨Nat.le_trans (ho o hx).other (by omega),(ho o hx).ratio.more (by omega),(ho o hx).price.more (by omega),(ho o hx).value.more (by omega)⟩,hm.stamp,hm.day,hm.kind,hm.choice⟩
theorem Zow{ls:List Lot}(hi:∀y∈ls,Lot.I y)(h:Zeo ls=false):ls.length<=1002/\(∀x∈ls,x.Sz 50000)/\∀x∈ls,x.c.length<=13:=by
 obtain⟨h1,h2⟩:=ZhX h hi
 refine⟨h1,fun x hx=> ?_,fun x hx=>(h2 x hx).2.2⟩;have hz:=(h2 x hx).1;exact⟨Nat.le_trans hz.id (by omega),Nat.le_trans hz.inst (by omega),Nat.le_trans hz.q (by omega),Nat.le_trans hz.c (by omega),Nat.le_trans hz.u (by omega),hz.a1,hz.a2,hz.o1,hz.o2⟩
end
section
open Go.ChangeShapes Go.WideShapes Go.ChangeAt Go.RowKit Go.Deep
theorem Zmw:laidOutB Tryz.prog=true:=by kernel_rfl
theorem own:ownKnob Tryz.prog.godebug=none:=by kernel_rfl
section
variable {H:Type} {enc:TypeId×Value->H} {P:Program}
theorem Zdr(hl:laidOutB P=true):∀{ts:List TypeId} {vs:List Value} {ds:List (DataW H)} {ps:List MemPlace} {W W':World} {sp:Nat->Bool},(∀t∈ts,P.readableRec t=true/\t<P.types.size)->
 DataW.TrodAll enc P W 0 (fun _=>true) true ts vs ds ps->(∀p∈ps,W.sameAt W' p)->(∀p∈ps,sp p.block=true)->DataW.TrodAll enc P W' 0 sp true ts vs ds ps:=by
 intro ts
 induction ts with
 |nil=>
  intro vs ds ps W W' sp _ h _ _;obtain⟨rfl,rfl,rfl⟩:=trodAll_nil h
  exact trodAll_mk0
 |cons t ts ih=>
  intro vs ds ps W W' sp hr h hs hp;obtain⟨v,vs',d,ds',p,q,rfl,rfl,rfl,h1,h2⟩:=trodAll_cons h
  refine trodAll_cons_mk (WideElems.Trod_stays hl (hr t (by simp)).1 (hr t (by simp)).2 h1 (fun x hx=>hs x (by simp[hx])) (fun x hx=>hp x (by simp[hx]))) (ih (fun t' ht'=>hr t' (by simp[ht'])) h2 (fun x hx=>hs x (by simp[hx])) (fun x hx=>hp x (by simp[hx])))
theorem Zg6{f:Func}{s:ChangeSpec}{apart fresh handsOn again:Bool}{W W':World}{args:Array Value}{ds gs:List (DataW H)}{before:List MemPlace}{tb:TypeId}
 (hl:laidOutB P=true) (hr:∀t∈f.params.toList,P.readableRec t=true/\t<P.types.size) (hrt:f.resultTypes=#[tb]) (hbt:P.underlying tb=some .bool) (hv:s.vars=[])
 (hfn:s.fn H (ds++gs)={results:=[.lit (.bool true)],args:=ds})
 (hW:DataW.Whole enc P f.params.toList s.vars apart W args.toList ds gs before) (hb:Below W.1.size W W'):s.post enc P f apart fresh handsOn again W args (.bool true) W':=by
 have hlt:∀p∈before,p.block<W.1.size:=hW.lt;have hold:∀p∈before,(fun b=>decide (b<W.1.size)) p.block=true:=fun p hp=>by simpa using hlt p hp
 have hW':=hW;obtain⟨p,q,hA,hV,hpq,hz,hn⟩:=hW
 rw[hv] at hV;obtain⟨rfl,rfl⟩:=trodVars_none hV
 simp only[List.append_nil] at hpq;subst hpq
 have hargs:∀sp:Nat->Bool,(∀x∈before,sp x.block=true)->DataW.TrodAll enc P W' 0 sp true f.params.toList args.toList ds before:=
  fun sp hs=>Zdr hl hr hA (fun x hx=>hb.same (hlt x hx)) hs
 have hres:∀(b:Nat) (sp:Nat->Bool) (hd:Bool),DataW.TrodAll enc P W' b sp hd f.resultTypes.toList ((Value.bool true).resultList f.resultTypes.size) (s.fn H (ds++[])).results []:=by
  intro b sp hd;rw[hfn,hrt];exact trodAll_mk1 (shut_bool hbt _)
 have hvars:∀sp:Nat->Bool,DataW.TrodVars enc P W' sp s.vars (s.fn H (ds++[])).vars []:=by
  intro sp;rw[hfn,hv];rfl
 refine⟨ds,[],before,[],before,[],hW',hres _ _ _,by rw[hfn];exact hargs _ hold,hvars _,World.keptBut_mono (fun x hx=>⟨hx,Or.inr (by simpa using hx)⟩) (hb.frame (·∈before)),fun _=> ?_⟩;have hres2:=hres 0 (fun _=>true) true;have hvars2:=hvars (fun _=>true);rw[hfn] at hres2 hvars2;refine⟨ok_one hrt rfl (okWide_bool_mk hbt _),_,_,([]++before)++[],⟨[]++before,[],trodAll_append (hargs _ (fun _ _=>rfl)) hres2,hvars2,rfl,?_,?_⟩,?_⟩
 ·intro b off hp;have hp':MemPlace.cell b off∈before:=by simpa using hp
  rw[hb.frozen (p:=⟨b,off,none⟩) (hlt _ hp')];exact hz b off (by simpa using hp)
 ·intro ha;have:=hn ha
  simpa using this
 ·intro x hx _;simpa using hx
end
theorem Vg:Tryz.prog.cellsOf 26=2:=by kernel_rfl
theorem ZiP{k:Int}(h:(Lit.int .i64 k).wf=true): -9223372036854775808<=k/\k<=9223372036854775807:=by
 simp[Lit.wf] at h
 have e1:IntKind.i64.min= -9223372036854775808:=rfl;have e2:IntKind.i64.max=9223372036854775807:=rfl;omega
theorem ZcE{α:Type}{P:Nat->α->Prop}:∀n,(∀i,i<n->∃r,P i r)->∃xs:List α,xs.length=n/\∀i r,xs[i]?=some r->P i r:=by
 intro n
 induction n with
 |zero=>intro _;exact⟨[],rfl,fun i r h=>by simp at h⟩
 |succ n ih=>
  intro h;obtain⟨xs,hl,hx⟩:=ih (fun i hi=>h i (by omega))
  obtain⟨r,hr⟩:=h n (by omega)
  refine⟨xs++[r],by simp[hl],fun i r' hi=> ?_⟩
  by_cases hlt:i<xs.length
  ·rw[List.getElem?_append_left hlt] at hi;exact hx i r' hi
  ·rw[List.getElem?_append_right (by omega)] at hi;have hlen:=(List.getElem?_eq_some_iff.1 hi).1;simp at hlen;have e:i=n:=by omega
   subst e;rw[show i-xs.length=0 by omega] at hi;simp at hi;subst hi;exact hr
theorem ZfO:Tryz.prog.cellsOf 50=7:=by kernel_rfl
theorem ZcF:Tryz.prog.cellsOf 23=1:=by kernel_rfl
theorem YQ:Tryz.prog.cellsOf 24=1:=by kernel_rfl
theorem Yf:Tryz.prog.cellsOf 9=1:=by kernel_rfl
theorem ZiQ:Tryz.prog.cellsOf 4=1:=by kernel_rfl
theorem ZaO(s:ByteArray):Value.string s=S s.data.toList:=by simp[S]
theorem Zh9{s:ByteArray}(h:s.size<=maxLen):s.data.toList.length<=maxLen:=by rw[Array.length_toList];exact h
theorem ZiR{H:Type}{enc:TypeId×Value->H}{W:World}{base:Nat}{v:Value}{d:DataW H}{p:List MemPlace}(hv:Value.okWide Tryz.prog W .any base 22 v)(h:DataW.Trod enc Tryz.prog W 0 (fun _=>true) true 22 v d p):
 ∃A n c xs,v=.slice A n c/\n<=maxLen/\YI W W.1.size A n xs/\((A=none/\c=0)\/∃a,A=some a)/\∀y∈xs,Lot.I y:=by
 obtain⟨a0,len,cap,rfl⟩:=okWide_slice Tryz.underlying22 hv
 obtain⟨fuel,hf⟩:=h
 rcases open_slice Tryz.underlying22 hf with ⟨hcs,hx⟩|⟨a,len',cap',m,n,D,Pl,hcs,_,hl,hm,hmm,hx,hi⟩
 ·simp[Value.cells] at hcs
  obtain⟨rfl,rfl,rfl⟩:=hcs
  exact⟨none,0,0,[],rfl,Nat.zero_le _,Sl.nil,.inl ⟨rfl,rfl⟩,fun y hy=>(by cases hy)⟩
 ·simp[Value.cells] at hcs
  obtain⟨rfl,rfl,rfl⟩:=hcs
  simp only[if_true] at hmm;subst hmm;obtain⟨b,off,spot⟩:=a
  rw[ZfO] at hi
  have hspot:0<len->spot=none:=by
   intro h0;obtain⟨cs',hc,_⟩:=hi 0 (by omega)
   obtain⟨_,hcl,hat⟩:=World.cells?_some hc
   have hc0:=hat 0 (by omega);rw[List.getElem?_eq_getElem (by omega)] at hc0;simpa[Addr.add] using World.cell?_spot hc0
  have key:∀i,i<len->∃r:Lot,b<W.1.size/\spot=none/\r.I/\∀j u,(L7 r)[j]?=some u->W.cell? ⟨b,off+i*7+j,none⟩=some u:=by
   intro i hil;obtain⟨cs',hc,ht'⟩:=hi i (by omega)
   obtain⟨ys,n',hn',hy,hlen,hyl,hfl⟩:=DataW.trod_struct Tryz.underlying50 ht'
   obtain⟨_,hcl,hat⟩:=World.cells?_some hc
   have hone:∀j (hj:j<cs'.length),(cs'.drop j).take 1=[cs'[j]]:=fun j hj=>by rw[List.drop_eq_getElem_cons hj];rfl
   rw[ZfO] at hlen;have g0:DataW.trod enc Tryz.prog W 0 (fun _=>true) true n' 9 ((cs'.drop 0).take (Tryz.prog.cellsOf 9))=ys[0]?:=hfl 0 _ rfl;have g1:DataW.trod enc Tryz.prog W 0 (fun _=>true) true n' 9 ((cs'.drop 1).take (Tryz.prog.cellsOf 9))=ys[1]?:=hfl 1 _ rfl;have g2:DataW.trod enc Tryz.prog W 0 (fun _=>true) true n' 23 ((cs'.drop 2).take (Tryz.prog.cellsOf 23))=ys[2]?:=hfl 2 _ rfl;have g3:DataW.trod enc Tryz.prog W 0 (fun _=>true) true n' 23 ((cs'.drop 3).take (Tryz.prog.cellsOf 23))=ys[3]?:=hfl 3 _ rfl;have g4:DataW.trod enc Tryz.prog W 0 (fun _=>true) true n' 24 ((cs'.drop 4).take (Tryz.prog.cellsOf 24))=ys[4]?:=hfl 4 _ rfl;have g5:DataW.trod enc Tryz.prog W 0 (fun _=>true) true n' 24 ((cs'.drop 5).take (Tryz.prog.cellsOf 24))=ys[5]?:=hfl 5 _ rfl;have g6:DataW.trod enc Tryz.prog W 0 (fun _=>true) true n' 24 ((cs'.drop 6).take (Tryz.prog.cellsOf 24))=ys[6]?:=hfl 6 _ rfl;rw[Yf,hone _ (by omega),List.getElem?_eq_getElem (by rw[hyl];decide)] at g0;rw[Yf,hone _ (by omega),List.getElem?_eq_getElem (by rw[hyl];decide)] at g1;rw[ZcF,hone _ (by omega),List.getElem?_eq_getElem (by rw[hyl];decide)] at g2;rw[ZcF,hone _ (by omega),List.getElem?_eq_getElem (by rw[hyl];decide)] at g3;rw[YQ,hone _ (by omega),List.getElem?_eq_getElem (by rw[hyl];decide)] at g4;rw[YQ,hone _ (by omega),List.getElem?_eq_getElem (by rw[hyl];decide)] at g5;rw[YQ,hone _ (by omega),List.getElem?_eq_getElem (by rw[hyl];decide)] at g6;obtain⟨s0,e0,_,l0⟩:=DataW.trod_string Tryz.underlying9 g0
   obtain⟨s1,e1,_,l1⟩:=DataW.trod_string Tryz.underlying9 g1
   obtain⟨k2,e2,_,l2⟩:=DataW.trod_int Tryz.underlying23 g2
   obtain⟨k3,e3,_,l3⟩:=DataW.trod_int Tryz.underlying23 g3
   obtain⟨s4,e4,_,l4⟩:=DataW.trod_string Tryz.underlying24 g4
   obtain⟨s5,e5,_,l5⟩:=DataW.trod_string Tryz.underlying24 g5
   obtain⟨s6,e6,_,l6⟩:=DataW.trod_string Tryz.underlying24 g6
   simp only[List.cons.injEq,and_true] at e0 e1 e2 e3 e4 e5 e6;have hc0:=hat 0 (by omega);rw[List.getElem?_eq_getElem (by omega),e0] at hc0;have hsp:=hspot (by omega);subst hsp;rw[Addr.add_lit,Addr.add_lit] at hc0
   have hbl:b<W.1.size:=by
    by_cases hh:b<W.1.size
    ·exact hh
    ·have hnone:W.heap[b]?=none:=Array.getElem?_eq_none (by omega);simp[World.cell?,hnone] at hc0
   refine⟨⟨s0.data.toList,s1.data.toList,k2,k3,s4.data.toList,s5.data.toList,s6.data.toList⟩,hbl,rfl,⟨ZiP l2,ZiP l3⟩,fun j u hu=> ?_⟩;have hj:j<7:=by have:=(List.getElem?_eq_some_iff.1 hu).1;rwa [Zbt] at this
   have hcj:=hat j (by omega);rw[List.getElem?_eq_getElem (by omega)] at hcj
   have hu':u=cs'[j]'(by omega):=by
    match j,hj,hu with
    |0,_,hu=>rw[e0,ZaO];exact(Option.some.inj hu).symm
    |1,_,hu=>rw[e1,ZaO];exact(Option.some.inj hu).symm
    |2,_,hu=>rw[e2];exact(Option.some.inj hu).symm
    |3,_,hu=>rw[e3];exact(Option.some.inj hu).symm
    |4,_,hu=>rw[e4,ZaO];exact(Option.some.inj hu).symm
    |5,_,hu=>rw[e5,ZaO];exact(Option.some.inj hu).symm
    |6,_,hu=>rw[e6,ZaO];exact(Option.some.inj hu).symm
   rw[Addr.add_lit,Addr.add_lit] at hcj;rw[hu'];exact hcj
  obtain⟨xs,hxl,hxp⟩:=ZcE len key
  refine⟨_,len,_,xs,rfl,by omega,⟨hxl.symm,fun hn=> ?_⟩,?_,fun y hy=> ?_⟩
  ·obtain⟨r,hb,hs,_⟩:=key 0 hn
   subst hs;exact⟨b,off,rfl,hb,fun i x hix j u hju=>(hxp i x hix).2.2.2 j u hju⟩
  ·exact .inr ⟨_,rfl⟩
  ·obtain⟨i,hi'⟩:=List.getElem?_of_mem hy
   exact(hxp i y hi').2.2.1
theorem Ys{H:Type}{enc:TypeId×Value->H}{W:World}{n:Nat}{x y:Value}{z:DataW H×List MemPlace}(h:DataW.trod enc Tryz.prog W 0 (fun _=>true) true n 26 [x,y]=some z):
 ∃f:Fr,x=S f.n/\y=S f.d/\f.n.length<=maxLen/\f.d.length<=maxLen:=by
 obtain⟨ys,n',hn',hy,hlen,hyl,hfl⟩:=DataW.trod_struct Tryz.underlying26 h
 have g0:DataW.trod enc Tryz.prog W 0 (fun _=>true) true n' 24 (([x,y].drop 0).take (Tryz.prog.cellsOf 24))=ys[0]?:=hfl 0 _ rfl;have g1:DataW.trod enc Tryz.prog W 0 (fun _=>true) true n' 24 (([x,y].drop 1).take (Tryz.prog.cellsOf 24))=ys[1]?:=hfl 1 _ rfl;rw[YQ,List.getElem?_eq_getElem (by rw[hyl];decide)] at g0 g1;obtain⟨s0,e0,_,l0⟩:=DataW.trod_string Tryz.underlying24 g0
 obtain⟨s1,e1,_,l1⟩:=DataW.trod_string Tryz.underlying24 g1
 simp only[List.drop_zero,List.take_succ_cons,List.take_zero,List.drop_succ_cons,List.cons.injEq,and_true] at e0 e1;exact⟨⟨s0.data.toList,s1.data.toList⟩,by rw[e0];exact ZaO s0,by rw[e1];exact ZaO s1,Zh9 l0,Zh9 l1⟩
theorem ZbA:Tryz.prog.cellsOf 3=1:=by kernel_rfl
theorem Zkt:Tryz.prog.cellsOf 27=1:=by kernel_rfl
theorem Zku:Tryz.prog.cellsOf 28=1:=by kernel_rfl
theorem ZdR:Tryz.prog.cellsOf 65=2:=by kernel_rfl
theorem ZbY:Tryz.prog.cellsOf 67=7:=by kernel_rfl
theorem ZiS:Tryz.prog.cellsOf 30=21:=by kernel_rfl
theorem ZdS{α:Type}{ec:α->List Value}{k:Nat}{H:Type}{enc:TypeId×Value->H}{W:World}{t e:TypeId}(ht:Tryz.prog.underlying t=some (.slice e))(hce:Tryz.prog.cellsOf e=k)(hk:0<k)(hlen:∀r,(ec r).length=k)
 (hel:∀(n:Nat) (c:List Value) (z:DataW H×List MemPlace),DataW.trod enc Tryz.prog W 0 (fun _=>true) true n e c=some z->∃r,c=ec r) {n:Nat} {v:Value} {z:DataW H×List MemPlace} (h:DataW.trod enc Tryz.prog W 0 (fun _=>true) true n t [v]=some z):
 ∃A n c xs,v=.slice A n c/\n<=maxLen/\n<=c/\Sl ec k W W.1.size A n xs:=by
 rcases open_slice ht h with ⟨hcs,hx⟩|⟨a,len,cap,m,n,D,Pl,hcs,_,hl,hm,hmm,hx,hi⟩
 ·simp only[List.cons.injEq,and_true] at hcs;exact⟨none,0,0,[],hcs,Nat.zero_le _,Nat.le_refl _,Sl.nil⟩
 ·simp only[List.cons.injEq,and_true] at hcs;simp only[if_true] at hmm;subst hmm;obtain⟨b,off,spot⟩:=a
  rw[hce] at hi
  have hspot:0<len->spot=none:=by
   intro h0;obtain⟨cs',hc,ht'⟩:=hi 0 (by omega)
   obtain⟨r,rfl⟩:=hel _ _ _ ht'
   obtain⟨_,hcl,hat⟩:=World.cells?_some hc
   have hc0:=hat 0 (by omega);rw[List.getElem?_eq_getElem (by rw[hlen];omega)] at hc0;simpa[Addr.add] using World.cell?_spot hc0
  have key:∀i,i<len->∃r:α,b<W.1.size/\spot=none/\∀j u,(ec r)[j]?=some u->W.cell? ⟨b,off+i*k+j,none⟩=some u:=by
   intro i hil;obtain⟨cs',hc,ht'⟩:=hi i (by omega)
   obtain⟨r,rfl⟩:=hel _ _ _ ht'
   obtain⟨_,hcl,hat⟩:=World.cells?_some hc
   have hc0:=hat 0 (by omega);rw[List.getElem?_eq_getElem (by rw[hlen];omega)] at hc0;have hsp:=hspot (by omega);subst hsp;rw[Addr.add_lit,Addr.add_lit] at hc0
   have hbl:b<W.1.size:=by
    by_cases hh:b<W.1.size
    ·exact hh
    ·have hnone:W.heap[b]?=none:=Array.getElem?_eq_none (by omega);simp[World.cell?,hnone] at hc0
   refine⟨r,hbl,rfl,fun j u hu=> ?_⟩;have hj:j<k:=by have:=(List.getElem?_eq_some_iff.1 hu).1;rwa [hlen] at this
   have hcj:=hat j (by omega);rw[Addr.add_lit,Addr.add_lit,hu] at hcj;exact hcj
  obtain⟨xs,hxl,hxp⟩:=ZcE len key
  refine⟨_,len,_,xs,hcs,by omega,hl,⟨hxl.symm,fun hn=> ?_⟩⟩;obtain⟨r,hb,hs,_⟩:=key 0 hn
  subst hs;exact⟨b,off,rfl,hb,fun i x hix j u hju=>(hxp i x hix).2.2 j u hju⟩
theorem Zkv{H:Type}{enc:TypeId×Value->H}{W:World}(n:Nat)(c:List Value)(z:DataW H×List MemPlace)(h:DataW.trod enc Tryz.prog W 0 (fun _=>true) true n 65 c=some z):∃r:Pk,c=P2 r:=by
 obtain⟨ys,n',hn',hy,hlen,hyl,hfl⟩:=DataW.trod_struct Tryz.underlying65 h
 rw[ZdR] at hlen;have hcl:c.length=2:=hlen;have hone:∀j (hj:j<c.length),(c.drop j).take 1=[c[j]]:=fun j hj=>by rw[List.drop_eq_getElem_cons hj];rfl
 have htwo:∀j (hj:j+1<c.length),(c.drop j).take 2=[c[j],c[j+1]]:=fun j hj=>by rw[List.drop_eq_getElem_cons (by omega),List.drop_eq_getElem_cons hj];rfl
 have g0:DataW.trod enc Tryz.prog W 0 (fun _=>true) true n' 9 ((c.drop 0).take (Tryz.prog.cellsOf 9))=ys[0]?:=hfl 0 _ rfl;have g1:DataW.trod enc Tryz.prog W 0 (fun _=>true) true n' 24 ((c.drop 1).take (Tryz.prog.cellsOf 24))=ys[1]?:=hfl 1 _ rfl;rw[Yf,hone _ (by omega),List.getElem?_eq_getElem (by rw[hyl];decide)] at g0;rw[YQ,hone _ (by omega),List.getElem?_eq_getElem (by rw[hyl];decide)] at g1;obtain⟨s0,e0,_,l0⟩:=DataW.trod_string Tryz.underlying9 g0
 obtain⟨s1,e1,_,l1⟩:=DataW.trod_string Tryz.underlying24 g1
 simp only[List.cons.injEq,and_true] at e0 e1
 have hcs:c=[.string s0,.string s1]:=by
  refine List.ext_getElem (by rw[hcl];rfl) fun j h1 h2=> ?_
  have hj:j<2:=by omega
  match j,hj with
  |0,_=>exact e0
  |1,_=>exact e1
  |q+2,hq=>exact absurd hq (by omega)
 refine⟨⟨s0.data.toList,s1.data.toList⟩,?_⟩;rw[hcs];simp[P2,S]
theorem Zkw{H:Type}{enc:TypeId×Value->H}{W:World}{n:Nat}{v:Value}{z:DataW H×List MemPlace}(h:DataW.trod enc Tryz.prog W 0 (fun _=>true) true n 27 [v]=some z):∃A n c xs,v=.slice A n c/\n<=maxLen/\n<=c/\Sl P2 2 W W.1.size A n xs:=
 ZdS Tryz.underlying27 ZdR (by omega) ZnS Zkv h
theorem Zkx{H:Type}{enc:TypeId×Value->H}{W:World}(n:Nat)(c:List Value)(z:DataW H×List MemPlace)(h:DataW.trod enc Tryz.prog W 0 (fun _=>true) true n 67 c=some z):∃r:Opn,c=O7 r:=by
 obtain⟨ys,n',hn',hy,hlen,hyl,hfl⟩:=DataW.trod_struct Tryz.underlying67 h
 rw[ZbY] at hlen;have hcl:c.length=7:=hlen;have hone:∀j (hj:j<c.length),(c.drop j).take 1=[c[j]]:=fun j hj=>by rw[List.drop_eq_getElem_cons hj];rfl
 have htwo:∀j (hj:j+1<c.length),(c.drop j).take 2=[c[j],c[j+1]]:=fun j hj=>by rw[List.drop_eq_getElem_cons (by omega),List.drop_eq_getElem_cons hj];rfl
 have g0:DataW.trod enc Tryz.prog W 0 (fun _=>true) true n' 9 ((c.drop 0).take (Tryz.prog.cellsOf 9))=ys[0]?:=hfl 0 _ rfl;have g1:DataW.trod enc Tryz.prog W 0 (fun _=>true) true n' 26 ((c.drop 1).take (Tryz.prog.cellsOf 26))=ys[1]?:=hfl 1 _ rfl;have g2:DataW.trod enc Tryz.prog W 0 (fun _=>true) true n' 26 ((c.drop 3).take (Tryz.prog.cellsOf 26))=ys[2]?:=hfl 2 _ rfl;have g3:DataW.trod enc Tryz.prog W 0 (fun _=>true) true n' 26 ((c.drop 5).take (Tryz.prog.cellsOf 26))=ys[3]?:=hfl 3 _ rfl;rw[Yf,hone _ (by omega),List.getElem?_eq_getElem (by rw[hyl];decide)] at g0;rw[Vg,htwo _ (by omega),List.getElem?_eq_getElem (by rw[hyl];decide)] at g1;rw[Vg,htwo _ (by omega),List.getElem?_eq_getElem (by rw[hyl];decide)] at g2;rw[Vg,htwo _ (by omega),List.getElem?_eq_getElem (by rw[hyl];decide)] at g3;obtain⟨s0,e0,_,l0⟩:=DataW.trod_string Tryz.underlying9 g0
 obtain⟨f1,a1,b1,u1,w1⟩:=Ys g1
 obtain⟨f2,a2,b2,u2,w2⟩:=Ys g2
 obtain⟨f3,a3,b3,u3,w3⟩:=Ys g3
 simp only[List.cons.injEq,and_true] at e0
 have hcs:c=[.string s0,S f1.n,S f1.d,S f2.n,S f2.d,S f3.n,S f3.d]:=by
  refine List.ext_getElem (by rw[hcl];rfl) fun j h1 h2=> ?_
  have hj:j<7:=by omega
  match j,hj with
  |0,_=>exact e0
  |1,_=>exact a1
  |2,_=>exact b1
  |3,_=>exact a2
  |4,_=>exact b2
  |5,_=>exact a3
  |6,_=>exact b3
  |q+7,hq=>exact absurd hq (by omega)
 refine⟨⟨s0.data.toList,f1,f2,f3⟩,?_⟩;rw[hcs];simp[O7,S]
theorem Zky{H:Type}{enc:TypeId×Value->H}{W:World}{n:Nat}{v:Value}{z:DataW H×List MemPlace}(h:DataW.trod enc Tryz.prog W 0 (fun _=>true) true n 28 [v]=some z):∃A n c xs,v=.slice A n c/\n<=maxLen/\n<=c/\Sl O7 7 W W.1.size A n xs:=
 ZdS Tryz.underlying28 ZbY (by omega) ZnT Zkx h
theorem ZiT{H:Type}{enc:TypeId×Value->H}{W:World}{base:Nat}{v:Value}{d:DataW H}{p:List MemPlace}(hv:Value.okWide Tryz.prog W .any base 30 v)(h:DataW.Trod enc Tryz.prog W 0 (fun _=>true) true 30 v d p):
 ∃(f:Fct) (u:FaV),v=.agg (Qk f u)/\FaM W W.1.size f u/\u.pn<=maxLen/\u.on<=maxLen/\f.Max:=by
 obtain⟨cs,rfl,hsz⟩:=okWide_struct Tryz.underlying30 hv
 rw[ZiS] at hsz;obtain⟨fuel,hf⟩:=h
 obtain⟨ys,n',hn',hy,hlen,hyl,hfl⟩:=DataW.trod_struct Tryz.underlying30 hf
 obtain⟨c,hc⟩:∃c:List Value,c=cs.toList:=⟨_,rfl⟩
 have hcl:c.length=21:=by rw[hc,Array.length_toList];exact hsz
 have hcv:(Value.agg cs).cells.toList=c:=by rw[hc];rfl
 rw[hcv] at hfl hlen;have hone:∀j (hj:j<c.length),(c.drop j).take 1=[c[j]]:=fun j hj=>by rw[List.drop_eq_getElem_cons hj];rfl
 have htwo:∀j (hj:j+1<c.length),(c.drop j).take 2=[c[j],c[j+1]]:=fun j hj=>by rw[List.drop_eq_getElem_cons (by omega),List.drop_eq_getElem_cons hj];rfl
 have g0:DataW.trod enc Tryz.prog W 0 (fun _=>true) true n' 9 ((c.drop 0).take (Tryz.prog.cellsOf 9))=ys[0]?:=hfl 0 _ rfl;have g1:DataW.trod enc Tryz.prog W 0 (fun _=>true) true n' 3 ((c.drop 1).take (Tryz.prog.cellsOf 3))=ys[1]?:=hfl 1 _ rfl;have g2:DataW.trod enc Tryz.prog W 0 (fun _=>true) true n' 4 ((c.drop 2).take (Tryz.prog.cellsOf 4))=ys[2]?:=hfl 2 _ rfl;have g3:DataW.trod enc Tryz.prog W 0 (fun _=>true) true n' 23 ((c.drop 3).take (Tryz.prog.cellsOf 23))=ys[3]?:=hfl 3 _ rfl;have g4:DataW.trod enc Tryz.prog W 0 (fun _=>true) true n' 3 ((c.drop 4).take (Tryz.prog.cellsOf 3))=ys[4]?:=hfl 4 _ rfl;have g5:DataW.trod enc Tryz.prog W 0 (fun _=>true) true n' 9 ((c.drop 5).take (Tryz.prog.cellsOf 9))=ys[5]?:=hfl 5 _ rfl;have g6:DataW.trod enc Tryz.prog W 0 (fun _=>true) true n' 9 ((c.drop 6).take (Tryz.prog.cellsOf 9))=ys[6]?:=hfl 6 _ rfl;have g7:DataW.trod enc Tryz.prog W 0 (fun _=>true) true n' 9 ((c.drop 7).take (Tryz.prog.cellsOf 9))=ys[7]?:=hfl 7 _ rfl;have g8:DataW.trod enc Tryz.prog W 0 (fun _=>true) true n' 9 ((c.drop 8).take (Tryz.prog.cellsOf 9))=ys[8]?:=hfl 8 _ rfl;have g9:DataW.trod enc Tryz.prog W 0 (fun _=>true) true n' 24 ((c.drop 9).take (Tryz.prog.cellsOf 24))=ys[9]?:=hfl 9 _ rfl;have g10:DataW.trod enc Tryz.prog W 0 (fun _=>true) true n' 24 ((c.drop 10).take (Tryz.prog.cellsOf 24))=ys[10]?:=hfl 10 _ rfl;have g11:DataW.trod enc Tryz.prog W 0 (fun _=>true) true n' 24 ((c.drop 11).take (Tryz.prog.cellsOf 24))=ys[11]?:=hfl 11 _ rfl;have g12:DataW.trod enc Tryz.prog W 0 (fun _=>true) true n' 26 ((c.drop 12).take (Tryz.prog.cellsOf 26))=ys[12]?:=hfl 12 _ rfl;have g13:DataW.trod enc Tryz.prog W 0 (fun _=>true) true n' 26 ((c.drop 14).take (Tryz.prog.cellsOf 26))=ys[13]?:=hfl 13 _ rfl;have g14:DataW.trod enc Tryz.prog W 0 (fun _=>true) true n' 26 ((c.drop 16).take (Tryz.prog.cellsOf 26))=ys[14]?:=hfl 14 _ rfl;have g15:DataW.trod enc Tryz.prog W 0 (fun _=>true) true n' 27 ((c.drop 18).take (Tryz.prog.cellsOf 27))=ys[15]?:=hfl 15 _ rfl;have g16:DataW.trod enc Tryz.prog W 0 (fun _=>true) true n' 28 ((c.drop 19).take (Tryz.prog.cellsOf 28))=ys[16]?:=hfl 16 _ rfl;have g17:DataW.trod enc Tryz.prog W 0 (fun _=>true) true n' 3 ((c.drop 20).take (Tryz.prog.cellsOf 3))=ys[17]?:=hfl 17 _ rfl;rw[Yf,hone _ (by omega),List.getElem?_eq_getElem (by rw[hyl];decide)] at g0;rw[ZbA,hone _ (by omega),List.getElem?_eq_getElem (by rw[hyl];decide)] at g1;rw[ZiQ,hone _ (by omega),List.getElem?_eq_getElem (by rw[hyl];decide)] at g2;rw[ZcF,hone _ (by omega),List.getElem?_eq_getElem (by rw[hyl];decide)] at g3;rw[ZbA,hone _ (by omega),List.getElem?_eq_getElem (by rw[hyl];decide)] at g4;rw[Yf,hone _ (by omega),List.getElem?_eq_getElem (by rw[hyl];decide)] at g5;rw[Yf,hone _ (by omega),List.getElem?_eq_getElem (by rw[hyl];decide)] at g6;rw[Yf,hone _ (by omega),List.getElem?_eq_getElem (by rw[hyl];decide)] at g7;rw[Yf,hone _ (by omega),List.getElem?_eq_getElem (by rw[hyl];decide)] at g8;rw[YQ,hone _ (by omega),List.getElem?_eq_getElem (by rw[hyl];decide)] at g9;rw[YQ,hone _ (by omega),List.getElem?_eq_getElem (by rw[hyl];decide)] at g10;rw[YQ,hone _ (by omega),List.getElem?_eq_getElem (by rw[hyl];decide)] at g11;rw[Vg,htwo _ (by omega),List.getElem?_eq_getElem (by rw[hyl];decide)] at g12;rw[Vg,htwo _ (by omega),List.getElem?_eq_getElem (by rw[hyl];decide)] at g13;rw[Vg,htwo _ (by omega),List.getElem?_eq_getElem (by rw[hyl];decide)] at g14;rw[Zkt,hone _ (by omega),List.getElem?_eq_getElem (by rw[hyl];decide)] at g15;rw[Zku,hone _ (by omega),List.getElem?_eq_getElem (by rw[hyl];decide)] at g16;rw[ZbA,hone _ (by omega),List.getElem?_eq_getElem (by rw[hyl];decide)] at g17;obtain⟨s0,e0,_,l0⟩:=DataW.trod_string Tryz.underlying9 g0
 obtain⟨k1,e1,_,l1⟩:=DataW.trod_int Tryz.underlying3 g1
 obtain⟨b2,e2,_⟩:=DataW.trod_bool Tryz.underlying4 g2
 obtain⟨k3,e3,_,l3⟩:=DataW.trod_int Tryz.underlying23 g3
 obtain⟨k4,e4,_,l4⟩:=DataW.trod_int Tryz.underlying3 g4
 obtain⟨s5,e5,_,l5⟩:=DataW.trod_string Tryz.underlying9 g5
 obtain⟨s6,e6,_,l6⟩:=DataW.trod_string Tryz.underlying9 g6
 obtain⟨s7,e7,_,l7⟩:=DataW.trod_string Tryz.underlying9 g7
 obtain⟨s8,e8,_,l8⟩:=DataW.trod_string Tryz.underlying9 g8
 obtain⟨s9,e9,_,l9⟩:=DataW.trod_string Tryz.underlying24 g9
 obtain⟨s10,e10,_,l10⟩:=DataW.trod_string Tryz.underlying24 g10
 obtain⟨s11,e11,_,l11⟩:=DataW.trod_string Tryz.underlying24 g11
 obtain⟨f12,a12,b12,u12,w12⟩:=Ys g12
 obtain⟨f13,a13,b13,u13,w13⟩:=Ys g13
 obtain⟨f14,a14,b14,u14,w14⟩:=Ys g14
 obtain⟨A15,n15,c15,x15,e15,l15,m15,r15⟩:=Zkw g15
 obtain⟨A16,n16,c16,x16,e16,l16,m16,r16⟩:=Zky g16
 obtain⟨k17,e17,_,l17⟩:=DataW.trod_int Tryz.underlying3 g17
 simp only[List.cons.injEq,and_true] at e0 e1 e2 e3 e4 e5 e6 e7 e8 e9 e10 e11 e17
 have hcs:c=[.string s0,.int .i64 k1,.bool b2,.int .i64 k3,.int .i64 k4,.string s5,.string s6,.string s7,.string s8,.string s9,.string s10,.string s11,S f12.n,S f12.d,S f13.n,S f13.d,S f14.n,S f14.d,.slice A15 n15 c15,.slice A16 n16 c16,.int .i64 k17]:=by
  refine List.ext_getElem (by rw[hcl];rfl) fun j h1 h2=> ?_
  have hj:j<21:=by omega
  match j,hj with
  |0,_=>exact e0
  |1,_=>exact e1
  |2,_=>exact e2
  |3,_=>exact e3
  |4,_=>exact e4
  |5,_=>exact e5
  |6,_=>exact e6
  |7,_=>exact e7
  |8,_=>exact e8
  |9,_=>exact e9
  |10,_=>exact e10
  |11,_=>exact e11
  |12,_=>exact a12
  |13,_=>exact b12
  |14,_=>exact a13
  |15,_=>exact b13
  |16,_=>exact a14
  |17,_=>exact b14
  |18,_=>exact e15
  |19,_=>exact e16
  |20,_=>exact e17
  |q+21,hq=>exact absurd hq (by omega)
 refine⟨⟨s0.data.toList,k1,b2,k3,k4,s5.data.toList,s6.data.toList,s7.data.toList,s8.data.toList,s9.data.toList,s10.data.toList,s11.data.toList,f12,f13,f14,x15,x16,k17⟩,⟨A15,n15,c15,A16,n16,c16⟩,?_,⟨r15,r16,m15⟩,l15,l16,⟨⟨u12,w12⟩,⟨u13,w13⟩,⟨u14,w14⟩,ZiP l1,ZiP l3,ZiP l4,ZiP l17⟩⟩;have:cs=c.toArray:=by rw[hc]
 rw[this,hcs];simp[Qk,S]
theorem ZcG{P:Program}{W:World}{name dn:String}{d:DataW Unit}{g:Nat}{t:TypeId}{ms:Array (String×TypeId)}(hg:P.globalNamed name=some g)(hty:(P.globals[g]?).map (·.type)=some t)(hi:P.underlying t=some (.interface ms))
 (h:laidMet P [(name,.iface dn d)] W):∃u v,W.var? P name=some #[.iface u v]:=by
 obtain⟨ps,⟨g',t',cs,fuel,p,q,hg',ht',hvar,hd,_,_⟩,_⟩:=h
 obtain rfl:=Option.some.inj (hg.symm.trans hg');obtain rfl:=Option.some.inj (hty.symm.trans ht');obtain⟨f',u,v,hcs,_,_⟩:=iface_of_trod hi hd
 refine⟨u,v,?_⟩;rw[hvar]
 congr 1
 exact Array.ext' hcs
noncomputable def ZbB(os:Os):World:=
 {World.doorLaid Tryz.prog 400 os with heap:=(World.doorLaid Tryz.prog 400 os).heap.modify 4 fun
  | .cells _ t frozen=>.cells (Pinned.utf8FirstZ.map fun(n:Nat)=>Value.int .u8 (n:Int)).toArray t frozen
  |o=>o}
theorem Zkz(os:Os)(args:Array Value):laidMet Tryz.prog Rows.spinoffEntitlesRow.laid ((ZbB os).forCall (fun _ _=>0) ⟨#[],args,[]⟩).memory:=
 laidMet_of_run' 8 (by kernel_rfl) (by kernel_rfl)
theorem ZfP{W:World}(h:laidMetH Tryz.prog Rows.spinoffEntitlesRow.laid W):Env W:=by
 have h0:laidMet Tryz.prog Rows.spinoffEntitlesRow.laid W:=h;have h1:=h0.filter (fun x=>x.1== "internal/strconv.uint64pow10");have e:Rows.spinoffEntitlesRow.laid.filter (fun x=>x.1== "internal/strconv.uint64pow10")=[("internal/strconv.uint64pow10",Lib.tabData .u64 Lib.pow10Tab)]:=by kernel_rfl
 rw[e] at h1;have h2:=h0.filter (fun x=>x.1== "strconv.ErrSyntax");have e2:Rows.spinoffEntitlesRow.laid.filter (fun x=>x.1== "strconv.ErrSyntax")=[("strconv.ErrSyntax",.iface "*errors.errorString" (.ptr (.agg [.lit (.string [105,110,118,97,108,105,100,32,115,121,110,116,97,120])])))]:=by kernel_rfl
 rw[e2] at h2;have h3:=h0.filter (fun x=>x.1== "strconv.ErrRange");have e3:Rows.spinoffEntitlesRow.laid.filter (fun x=>x.1== "strconv.ErrRange")=[("strconv.ErrRange",.iface "*errors.errorString" (.ptr (.agg [.lit (.string [118,97,108,117,101,32,111,117,116,32,111,102,32,114,97,110,103,101])])))]:=by kernel_rfl
 rw[e3] at h3;refine⟨?_,?_,?_⟩
 ·exact Lib.tabIs_of_head (g:=2) (t:=261) (e:=126) (n:=20) (by kernel_rfl) (by kernel_rfl) Tryz.underlying261 Tryz.underlying126 (by kernel_rfl) (by kernel_rfl) h1
 ·exact ZcG (g:=0) (t:=148) (by kernel_rfl) (by kernel_rfl) Tryz.underlying148 h2
 ·exact ZcG (g:=1) (t:=148) (by kernel_rfl) (by kernel_rfl) Tryz.underlying148 h3
end
section
open Go.ChangeShapes Go.WideShapes Go.ChangeAt Go.RowKit Go.Deep
theorem ZeH{H:Type}{enc:TypeId×Value->H}{W:World}{v:Value}{d:DataW H}{p:List MemPlace}{A:Option Addr}{n c:Nat}(hv:v=.slice A n c)(h:DataW.Trod enc Tryz.prog W 0 (fun _=>true) true 22 v d p):n<=c:=by
 subst hv;obtain⟨fuel,hf⟩:=h
 rcases open_slice Tryz.underlying22 hf with ⟨hcs,hx⟩|⟨a,len',cap',m,n,D,Pl,hcs,_,hl,hm,hmm,hx,hi⟩
 ·simp[Value.cells] at hcs
  omega
 ·simp[Value.cells] at hcs
  obtain⟨rfl,rfl,rfl⟩:=hcs
  exact hl
end
namespace lawSpinoffEntitles
open Go.ChangeShapes Go.WideShapes Go.ChangeAt Go.RowKit Go.Deep
def Zmx:Prop:=∀(A0:Option Addr) (n0 c0:Nat) (xs0:List Lot) (f1:Fct) (v1:FaV) (W:World),Env W->n0<=c0->YI W W.1.size A0 n0 xs0->n0<=maxLen->((A0=none/\c0=0)\/∃a,A0=some a)->(∀y∈xs0,Lot.I y)->FaM W W.1.size f1 v1->v1.pn<=maxLen->v1.on<=maxLen->f1.Max->Calls Tryz.prog 3 #[.slice A0 n0 c0,.agg (Qk f1 v1)] W fun e w'=>e=.returned (.bool true)/\Below W.1.size W w'
theorem ZkA(hlaw:Zmx)(H:Type)(enc:TypeId×Value->H)(W:World)(hpow:Env W)(base:Nat)(args:Array Value)(ds gs:List (DataW H))(before:List MemPlace)
 (hval:∀(j:Nat) t v,Tryz.f3.params[j]?=some t->args[j]?=some v->Value.okWide Tryz.prog W .any base t v)
 (hW:DataW.Whole enc Tryz.prog Tryz.f3.params.toList Rows.spinoffEntitlesSpec.vars false W args.toList ds gs before):
 Calls Tryz.prog 3 args W fun e W'=>∃v,e=.returned v/\Rows.spinoffEntitlesSpec.post enc Tryz.prog Tryz.f3 false true false false W args v W':=by
 have hW':=hW;obtain⟨p,q,hA0,hV,rfl,hfz,hnd⟩:=hW
 have hA:DataW.TrodAll enc Tryz.prog W 0 (fun _=>true) true Tryz.f3.params.toList args.toList ds p:=hA0;rw[Tryz.params3] at hA hval;obtain⟨v0,vs0,d0,ds0,p0,q0,hargs0,rfl,rfl,h0,r0⟩:=trodAll_cons hA
 obtain⟨v1,vs1,d1,ds1,p1,q1,hargs1,rfl,rfl,h1,r1⟩:=trodAll_cons r0
 obtain⟨rfl,rfl,rfl⟩:=trodAll_nil r1
 obtain rfl:args=#[v0,v1]:=by cases args;simp_all
 obtain⟨rfl,rfl⟩:=trodVars_none hV
 obtain⟨A0,n0,c0,xs0,hv0,hn0,hr0,hz0,hi0⟩:=ZiR (hval 0 22 v0 (by kernel_rfl) (by kernel_rfl)) h0
 have hc0:=ZeH hv0 h0;subst hv0;obtain⟨f1,u1,rfl,hm1,hp1,ho1,hx1⟩:=ZiT (hval 1 30 v1 (by kernel_rfl) (by kernel_rfl)) h1
 refine(hlaw A0 n0 c0 xs0 f1 u1 W hpow hc0 hr0 hn0 hz0 hi0 hm1 hp1 ho1 hx1).mono fun e W' ⟨he,hb⟩=> ?_
 subst he;refine⟨_,rfl,Zg6 Zmw (fun t ht=> ?_) (tb:=4) (by kernel_rfl) Tryz.underlying4 rfl rfl hW' hb⟩;rw[Tryz.params3] at ht;have hall:([22,30].all fun t=>Tryz.prog.readableRec t&&decide (t<Tryz.prog.types.size))=true:=by kernel_rfl
 have:=List.all_eq_true.1 hall t (by simpa using ht)
 simpa using this
theorem Zox(os:Os){H:Type}(enc:TypeId×Value->H):∃places,DataW.whole enc Tryz.prog ((ZbB os).forCall (fun _ _=>0) ⟨#[],#[.slice none 0 0,.agg #[.string ⟨#[]⟩,.int .i64 0,.bool false,.int .i64 0,.int .i64 0,.string ⟨#[]⟩,.string ⟨#[]⟩,.string ⟨#[]⟩,.string ⟨#[]⟩,.string ⟨#[]⟩,.string ⟨#[]⟩,.string ⟨#[]⟩,.string ⟨#[]⟩,.string ⟨#[]⟩,.string ⟨#[]⟩,.string ⟨#[]⟩,.string ⟨#[]⟩,.string ⟨#[]⟩,.slice none 0 0,.slice none 0 0,.int .i64 0]],[]⟩).memory Tryz.f3.params.toList Rows.spinoffEntitlesSpec.vars false (#[Value.slice none 0 0,Value.agg #[.string ⟨#[]⟩,.int .i64 0,.bool false,.int .i64 0,.int .i64 0,.string ⟨#[]⟩,.string ⟨#[]⟩,.string ⟨#[]⟩,.string ⟨#[]⟩,.string ⟨#[]⟩,.string ⟨#[]⟩,.string ⟨#[]⟩,.string ⟨#[]⟩,.string ⟨#[]⟩,.string ⟨#[]⟩,.string ⟨#[]⟩,.string ⟨#[]⟩,.string ⟨#[]⟩,.slice none 0 0,.slice none 0 0,.int .i64 0]]:Array Value).toList 8=some ([.nil,.agg [.lit (.string []),.lit (.int .i64 0),.lit (.bool false),.lit (.int .i64 0),.lit (.int .i64 0),.lit (.string []),.lit (.string []),.lit (.string []),.lit (.string []),.lit (.string []),.lit (.string []),.lit (.string []),.agg [.lit (.string []),.lit (.string [])],.agg [.lit (.string []),.lit (.string [])],.agg [.lit (.string []),.lit (.string [])],.nil,.nil,.lit (.int .i64 0)]],[],places):=
 ⟨[],by kernel_rfl⟩
theorem Zn0(hlaw:Zmx)(os:Os)(started:os.Started)(H:Type)(enc:TypeId×Value->H)(F:Stop.Interp):
 ReturnsInHanded {} Tryz.checked os 3 .any ((OpenSpec.ofChange Rows.spinoffEntitlesSpec).preRow enc Tryz.prog Tryz.f3 Rows.spinoffEntitlesRow.domain false Rows.spinoffEntitlesRow.laid) (((OpenSpec.ofChange Rows.spinoffEntitlesSpec).at F).post enc Tryz.prog Tryz.f3 false true false false):=by
 obtain⟨places,hx⟩:=Zox os enc
 refine returnsInHanded_of_row (C:=Tryz.checked) (s:=OpenSpec.ofChange Rows.spinoffEntitlesSpec) own started (by kernel_rfl) Tryz.func3
  (witness_row_at (enc:=enc) (C:=Tryz.checked) false (ZbB os) #[.slice none 0 0,.agg #[.string ⟨#[]⟩,.int .i64 0,.bool false,.int .i64 0,.int .i64 0,.string ⟨#[]⟩,.string ⟨#[]⟩,.string ⟨#[]⟩,.string ⟨#[]⟩,.string ⟨#[]⟩,.string ⟨#[]⟩,.string ⟨#[]⟩,.string ⟨#[]⟩,.string ⟨#[]⟩,.string ⟨#[]⟩,.string ⟨#[]⟩,.string ⟨#[]⟩,.string ⟨#[]⟩,.slice none 0 0,.slice none 0 0,.int .i64 0]] rfl (by kernel_rfl) (by kernel_rfl) (by kernel_rfl)
    (OpenSpec.preRow_of_cond 8 hx (by kernel_rfl) (fun k hk=>by cases hk) (by kernel_rfl) (Zkz os _))) ?_
 intro W base args ds gs before hval hW _ _ _ hL _ _;exact ZkA hlaw H enc W (ZfP hL) base args ds gs before hval hW
end lawSpinoffEntitles
end Go.Proofs.YtkddgeclncafoaaGreatDoor
