/- Gr2, Fmx, Vxi, Vgr, El. -/
import Derived.Test.YtokjnjdbnabchaaGreatDoorQGEp9
import Derived.Test.YtokjnjdbnabchaaGreatDoorQGEp39
import Derived.Test.YtokjnjdbnabchaaGreatDoorQGEp16
set_option maxRecDepth 100000
set_option maxHeartbeats 8000000
namespace Go.Proofs.YtokjnjdbnabchaaGreatDoor
open Go.Lib renaming hid→jq
open Go.RowKit Go.Shelf
section
attribute [local go_sem] Oper.semAt_some
attribute [local go_sem ↓] Go.wp_at_zero Go.wp_at_succ Qs
structure Fct.Gs (f:Fct):Prop where
 key:f.key.length<=24
 inst:f.inst.length<=24
 other:f.other.length<=24
 cur:f.cur.length<=24
 target:f.target.length<=24
 q:f.q.length<=13
 amount:f.amount.length<=13
 fee:f.fee.length<=13
 price:f.price.Sz 13
 ratio:f.ratio.Sz 13
 share:f.share.Sz 13
def GrP(f:Fct)(v:FaV)(e:Ending):Prop:=∃b,e=.returned (.bool b)/\(b=false->f.Gs/\v.pn<=66/\v.on<=10/\(∀p∈f.picks,p.Sz 30)/\∀o∈f.options,o.Sz 24)
theorem JT{α:Type}{p:α->Prop}{xs:List α}{k:Nat}{x:α}(h:xs[k]?=some x)(ha:∀y∈xs.take k,p y)(hx:p x):∀y∈xs.take (k+1),p y:=by
 obtain⟨hk,rfl⟩:=List.getElem?_eq_some_iff.1 h
 rw[List.take_succ_eq_append_getElem hk];intro y hy
 rcases List.mem_append.1 hy with hy|hy
 ·exact ha y hy
 ·rw[List.mem_singleton.1 hy];exact hx
theorem Zbz(f:Fct)(v:FaV)(w:World)(hp:Env w)(hm:FaM w w.1.size f v)(hpn:v.pn<=9223372036854775807)(hon:v.on<=9223372036854775807):
 Calls Tryz.prog 82 #[.agg (Qe f v)] w fun e w'=>GrP f v e/\Below w.1.size w w':=by
 have H:=jq ((Kp.start hp).new w.1.size rfl (Qe f v) 44);have HM:=jq (fun W (hb:Below w.1.size w W)=>hm.here hb);have HLQ:=jq (fun W=>YQ f.q W);have HLA:=jq (fun W=>YQ f.amount W);have HLE:=jq (fun W=>YQ f.fee W);have HLP:=jq (fun W=>Xd f.price W);have HLR:=jq (fun W=>Xd f.ratio W);have HLS:=jq (fun W=>Xd f.share W)
 have HG:=jq (fun(h1:f.key.length<=24) (h2:f.inst.length<=24) (h3:f.other.length<=24) (h4:f.cur.length<=24) (h5:f.target.length<=24) (h6:decide (13<f.q.length)=false) (h7:decide (13<f.amount.length)=false) (h8:decide (13<f.fee.length)=false) (h9:lgF f.price=false) (h10:lgF f.ratio=false) (h11:lgF f.share=false)=>
  (show f.Gs from⟨h1,h2,h3,h4,h5,by simpa using h6,by simpa using h7,by simpa using h8,XA h9,XA h10,XA h11⟩))
 generalize decide (13<f.q.length)=bq at*;generalize decide (13<f.amount.length)=ba at*;generalize decide (13<f.fee.length)=be at*;generalize lgF f.price=bp at*;generalize lgF f.ratio=br at*;generalize lgF f.share=bs at*;have C0:=jq (show(Qe f v)[0]?=some (.string ⟨f.key.toArray⟩) from rfl);have x0:=H.out.c 0 0 rfl C0.out;have C5:=jq (show(Qe f v)[5]?=some (.string ⟨f.inst.toArray⟩) from rfl);have x5:=H.out.c 0 5 rfl C5.out;have C6:=jq (show(Qe f v)[6]?=some (.string ⟨f.other.toArray⟩) from rfl);have x6:=H.out.c 0 6 rfl C6.out;have C7:=jq (show(Qe f v)[7]?=some (.string ⟨f.cur.toArray⟩) from rfl);have x7:=H.out.c 0 7 rfl C7.out;have C8:=jq (show(Qe f v)[8]?=some (.string ⟨f.target.toArray⟩) from rfl);have x8:=H.out.c 0 8 rfl C8.out;have C9:=jq (show(Qe f v)[9]?=some (.string ⟨f.q.toArray⟩) from rfl);have x9:=H.out.c 0 9 rfl C9.out;have C10:=jq (show(Qe f v)[10]?=some (.string ⟨f.amount.toArray⟩) from rfl);have x10:=H.out.c 0 10 rfl C10.out;have C11:=jq (show(Qe f v)[11]?=some (.string ⟨f.fee.toArray⟩) from rfl);have x11:=H.out.c 0 11 rfl C11.out;have C12:=jq (show(Qe f v)[12]?=some (.string ⟨f.price.n.toArray⟩) from rfl);have x12:=H.out.c 0 12 rfl C12.out;have C13:=jq (show(Qe f v)[13]?=some (.string ⟨f.price.d.toArray⟩) from rfl);have x13:=H.out.c 0 13 rfl C13.out;have C14:=jq (show(Qe f v)[14]?=some (.string ⟨f.ratio.n.toArray⟩) from rfl);have C15:=jq (show(Qe f v)[15]?=some (.string ⟨f.ratio.d.toArray⟩) from rfl);have C16:=jq (show(Qe f v)[16]?=some (.string ⟨f.share.n.toArray⟩) from rfl);have C17:=jq (show(Qe f v)[17]?=some (.string ⟨f.share.d.toArray⟩) from rfl);have C18:=jq (show(Qe f v)[18]?=some (.slice v.pA v.pn v.pc) from rfl);have C19:=jq (show(Qe f v)[19]?=some (.slice v.oA v.on v.oc) from rfl);generalize hfb:Qe f v=fb at*;clear hfb hp hm;unfold Qj S at*
 go_enter Tryz.func82,Tryz.ntmps82
 go_upto_region 1 with (fail)
 generalize w.alloc (.cells fb 44)=W at*
 go_cut [63] (fun u wc=>∃b,u=.bool b/\Hid (Kp w [(w.1.size,fb,44)] wc)/\Hid (b=false->f.Gs))
 case first=>
  go_wp2_with (first
   |(go_at_call 127;first
      |(refine(HLQ.out _).mono ?_;rintro e v1 ⟨rfl,rfl⟩;cases bq)
      |(refine(HLA.out _).mono ?_;rintro e v1 ⟨rfl,rfl⟩;cases ba)
      |(refine(HLE.out _).mono ?_;rintro e v1 ⟨rfl,rfl⟩;cases be))
   |(go_at_call 128;first
      |(refine(HLP.out _).mono ?_;rintro e w2 ⟨rfl,hb2⟩;have H2:=jq (H.out.here hb2);have y14:=H2.out.c 0 14 rfl C14.out;have y15:=H2.out.c 0 15 rfl C15.out;cases bp)
      |(refine(HLR.out _).mono ?_;rintro e w3 ⟨rfl,hb3⟩;have H3:=jq (H2.out.here hb3);have y16:=H3.out.c 0 16 rfl C16.out;have y17:=H3.out.c 0 17 rfl C17.out;cases br)
      |(refine(HLS.out _).mono ?_;rintro e w4 ⟨rfl,hb4⟩;have H4:=jq (H3.out.here hb4);cases bs)))
  all_goals
   go_meet
   refine⟨_,rfl,by first|exact H4.out|exact H3.out|exact H2.out|exact H.out,fun h=> ?_⟩
   first|(cases h;done)|exact HG.out (by omega) (by omega) (by omega) (by omega) (by omega) (by first|rfl|trivial) (by first|rfl|trivial) (by first|rfl|trivial) (by first|rfl|trivial) (by first|rfl|trivial) (by first|rfl|trivial)
 case rest=>
 obtain⟨b,rfl,HK,HS⟩:=hcut
 clear HLQ HLA HLE HLP HLR HLS HG x0 x5 x6 x7 x8 x9 x10 x11 x12 x13 H
 cases b with
 |true=>
  go_wp2_with fail
  first|go_ret|skip
  exact⟨⟨true,rfl,fun h=>by cases h⟩,HK.out.bl⟩
 |false=>
 have HF:=jq (HS.out rfl);clear HS;have x18:=HK.out.c 0 18 rfl C18.out;have x19:=HK.out.c 0 19 rfl C19.out;go_upto_region 3 with (fail)
 go_cut [97] (fun u wx=>∃b,u=.bool b/\wx=wc/\Hid (b=false->v.pn<=66/\v.on<=10))
 case first=>
  go_wp2_with fail
  all_goals
   go_meet
   refine⟨_,rfl,rfl,fun h=> ?_⟩
   first|(cases h;done)|(constructor<;>omega)|(simp at h;constructor<;>omega)
 case rest=>
 obtain⟨b,rfl,rfl,HS⟩:=hcut
 cases b with
 |true=>
  go_wp2_with fail
  first|go_ret|skip
  exact⟨⟨true,rfl,fun h=>by cases h⟩,HK.out.bl⟩
 |false=>
 have hsz:=HS.out rfl;have hpn':=hsz.1;have hon':=hsz.2;clear HS hpn hon hsz;go_wp2_with fail
 go_loopw [3] (fun i wr=>∃k:Nat,k<=v.pn/\i=.int .i64 k/\Hid (∀p∈f.picks.take k,p.Sz 30)/\Hid (Kp w [(w.1.size,fb,44)] wr)) (fun i _=>v.pn-(intOf i).toNat)
 case atStart=>exact⟨0,Nat.zero_le _,rfl,(show ∀p∈f.picks.take 0,p.Sz 30 from fun p h=>by simp at h),HK.out⟩
 case round=>
  obtain⟨k,hk,rfl,HAN,HKr⟩:=hrel
  have x18':=HKr.out.c 0 18 rfl C18.out
  by_cases hlt:k<v.pn
  ·obtain⟨b0,off,x,hA,hb,hx,d0,d1⟩:=(HM.out wr HKr.out.bl).pk.pk hlt
   rw[hA] at x18';have HX:=jq hx;have HLX:=jq (fun W=>YQ x.q W);have HBX:=jq (show decide (13<x.q.length)=false->x.q.length<=30 from fun h=>by simp at h;omega);generalize decide (13<x.q.length)=bx at*;clear hA hb hx;unfold S at*
   by_cases h1:30<x.lot.length
   ·have a1:(30:Int)<(x.lot.length:Int):=by omega
    clear h1;go_wp2_with fail
    first|go_ret|skip
    exact⟨⟨true,rfl,fun h=>by cases h⟩,HKr.out.bl⟩
   ·have a1:¬(30:Int)<(x.lot.length:Int):=by omega
    cases bx with
    |true=>
     go_wp2_with (go_at_call 127;refine(HLX.out _).mono ?_;rintro e v1 ⟨rfl,rfl⟩)
     first|go_ret|skip
     exact⟨⟨true,rfl,fun h=>by cases h⟩,HKr.out.bl⟩
    |false=>
     have HSX:=jq (show x.Sz 30 from⟨by omega,HBX.out rfl⟩);clear HBX h1;go_wp2_with (go_at_call 127;refine(HLX.out _).mono ?_;rintro e v1 ⟨rfl,rfl⟩)
     go_roundw
     case rel=>exact⟨k+1,by omega,by go_num,JT HX.out HAN.out HSX.out,HKr.out⟩
     case measure=>simp[intOf];omega
  ·have HPK:=jq (show ∀p∈f.picks,p.Sz 30 by have h1:=HAN.out;have h2:=(HM.out wr HKr.out.bl).pk.1;rw[List.take_of_length_le (by omega)] at h1;exact h1);have ek:k=v.pn:=by omega
   clear HAN hlt hk;subst ek;go_wp2_with fail
   go_loopw [4] (fun i wq=>∃k:Nat,k<=v.on/\i=.int .i64 k/\Hid (∀p∈f.options.take k,p.Sz 24)/\Hid (Kp w [(w.1.size,fb,44)] wq)) (fun i _=>v.on-(intOf i).toNat)
   case atStart=>exact⟨0,Nat.zero_le _,rfl,(show ∀p∈f.options.take 0,p.Sz 24 from fun p h=>by simp at h),HKr.out⟩
   case round=>
    obtain⟨q,hq,rfl,HAO,HKq⟩:=hrel
    have x19':=HKq.out.c 0 19 rfl C19.out
    by_cases hlt2:q<v.on
    ·obtain⟨b0,off,y,hA,hb,hy,d0,d1,d2,d3,d4,d5,d6⟩:=(HM.out _ HKq.out.bl).op.opt hlt2
     rw[hA] at x19';have HY:=jq hy;have HL1:=jq (fun W=>Xd y.ratio W);have HL2:=jq (fun W=>Xd y.price W);have HL3:=jq (fun W=>Xd y.value W);have HYS:=jq (fun(h0:y.other.length<=24) (h1:lgF y.ratio=false) (h2:lgF y.price=false) (h3:lgF y.value=false)=>(show y.Sz 24 from⟨h0,(XA h1).more (by omega),(XA h2).more (by omega),(XA h3).more (by omega)⟩));have HB:=jq (HKq.out.new _ rfl #[.string ⟨y.other.toArray⟩,.string ⟨y.ratio.n.toArray⟩,.string ⟨y.ratio.d.toArray⟩,.string ⟨y.price.n.toArray⟩,.string ⟨y.price.d.toArray⟩,.string ⟨y.value.n.toArray⟩,.string ⟨y.value.d.toArray⟩] 162);generalize lgF y.ratio=b1 at*;generalize lgF y.price=b2 at*;generalize lgF y.value=b3 at*;clear hA hb hy;unfold Qj S at*
     go_upto_region 14 with (fail)
     generalize wr.alloc _=W1 at*;clear d0 d1 d2 d3 d4 d5 d6 x19';generalize hb5:wr.1.size=b5 at*;clear hb5;have c0:=HB.out.c 0 0 rfl rfl;have c1:=HB.out.c 0 1 rfl rfl;have c2:=HB.out.c 0 2 rfl rfl
     go_wp2_with (go_at_call 128;first
      |(refine(HL1.out _).mono ?_;rintro e w2 ⟨rfl,hb2⟩;have H2:=jq (HB.out.here hb2);have e3:=H2.out.c 0 3 rfl rfl;have e4:=H2.out.c 0 4 rfl rfl;cases b1)
      |(refine(HL2.out _).mono ?_;rintro e w3 ⟨rfl,hb3⟩;have H3:=jq (H2.out.here hb3);have e5:=H3.out.c 0 5 rfl rfl;have e6:=H3.out.c 0 6 rfl rfl;cases b2)
      |(refine(HL3.out _).mono ?_;rintro e w4 ⟨rfl,hb4⟩;have H4:=jq (H3.out.here hb4);cases b3))
     ·go_roundw
      case rel=>exact⟨q+1,by omega,by go_num,JT HY.out HAO.out (HYS.out (by omega) (by first|rfl|trivial) (by first|rfl|trivial) (by first|rfl|trivial)),H4.out.tail⟩
      case measure=>simp[intOf];omega
     all_goals
      first|go_ret|skip
      exact⟨⟨true,rfl,fun h=>by cases h⟩,by first|exact H4.out.bl|exact H3.out.bl|exact H2.out.bl|exact HB.out.bl⟩
    ·have HOP:=jq (show ∀p∈f.options,p.Sz 24 by have h1:=HAO.out;have h2:=(HM.out _ HKq.out.bl).op.1;rw[List.take_of_length_le (by omega)] at h1;exact h1);go_wp2_with fail
     first|go_ret|skip
     exact⟨⟨false,rfl,fun _=>⟨HF.out,hpn',hon',HPK.out,HOP.out⟩⟩,HKq.out.bl⟩
end
section
structure Fct.Max (f:Fct):Prop where
 price:f.price.n.length<=maxLen/\f.price.d.length<=maxLen
 ratio:f.ratio.n.length<=maxLen/\f.ratio.d.length<=maxLen
 share:f.share.n.length<=maxLen/\f.share.d.length<=maxLen
 stamp:I64 f.stamp
 day:I64 f.day
 kind:I64 f.kind
 choice:I64 f.choice
theorem Fct.Gs.sz0{f:Fct}(h:f.Gs)(hm:f.Max)(hp:∀p∈f.picks,p.Sz 30)(ho:∀o∈f.options,o.Sz 24):f.Sz 1000:=
 ⟨Nat.le_trans h.key (by omega),Nat.le_trans h.inst (by omega),Nat.le_trans h.other (by omega),Nat.le_trans h.cur (by omega),Nat.le_trans h.target (by omega),Nat.le_trans h.q (by omega),Nat.le_trans h.amount (by omega),Nat.le_trans h.fee (by omega),
  h.price.more (by omega),h.ratio.more (by omega),h.share.more (by omega),fun p hx=>⟨Nat.le_trans (hp p hx).lot (by omega),Nat.le_trans (hp p hx).q (by omega)⟩,
  fun o hx=>⟨Nat.le_trans (ho o hx).other (by omega),(ho o hx).ratio.more (by omega),(ho o hx).price.more (by omega),(ho o hx).value.more (by omega)⟩,hm.stamp,hm.day,hm.kind,hm.choice⟩
end
section
def FxI(W:World)(x:Fx):Prop:=FaM W W.1.size x.1 x.2/\x.2.pn<=maxLen/\x.2.on<=maxLen/\x.1.Max
def GrX(x:Fx):Prop:=x.1.Gs/\x.2.pn<=66/\x.2.on<=10/\(∀p∈x.1.picks,p.Sz 30)/\∀o∈x.1.options,o.Sz 24
theorem FxI.m{W:World}{x:Fx}(h:FxI W x)(hg:GrX x):FxM W W.1.size x:=
 ⟨h.1,Nat.le_trans hg.2.1 (by omega),Nat.le_trans hg.2.2.1 (by omega),hg.1.sz0 h.2.2.2 hg.2.2.2.1 hg.2.2.2.2⟩
theorem FxI.here{W W':World}{x:Fx}(h:FxI W x)(hb:Below W.1.size W W'):FxI W' x:=⟨h.1.here hb,h.2⟩
theorem Vg{W:World}{A:Option Addr}{n:Nat}{xs:List Fx}(h:Sl YY 21 W W.1.size A n xs)(hi:∀x∈xs,FxI W x)(hg:∀x∈xs,GrX x):Fxs W W.1.size A n xs:=⟨h,fun x hx=>(hi x hx).m (hg x hx)⟩
theorem ZdR{W:World}{xs:List Fx}(hi:∀x∈xs,FxI W x):∀x∈xs,FaM W W.1.size x.1 x.2/\x.2.pn<=9223372036854775807/\x.2.on<=9223372036854775807:=by
 have hml:maxLen<=9223372036854775807:=by decide
 exact fun x hx=>⟨(hi x hx).1,Nat.le_trans (hi x hx).2.1 hml,Nat.le_trans (hi x hx).2.2.1 hml⟩
end
section
attribute [local go_sem] Oper.semAt_some
attribute [local go_sem ↓] Qs QG
def GvP(n:Nat)(xs:List Fx)(e:Ending):Prop:=∃b,e=.returned (.bool b)/\(b=false->(n<=1002/\(n<=12\/1000<n))/\∀x∈xs,GrX x)
theorem ZdF(A:Option Addr)(n c:Nat)(xs:List Fx)(w:World)(hp:Env w)(hs:Sl YY 21 w w.1.size A n xs)(hm:∀x∈xs,FaM w w.1.size x.1 x.2/\x.2.pn<=9223372036854775807/\x.2.on<=9223372036854775807)(hn:n<=9223372036854775807):
 Calls Tryz.prog 41 #[.slice A n c] w fun e w'=>GvP n xs e/\Below w.1.size w w':=by
 have H:=jq (Kp.start hp);have HS:=jq hs;have HM:=jq hm;have HNW:=jq hs.1;clear hp hs hm
 by_cases h1:12<n/\n<=1000
 ·have i1:(12:Int)<(n:Int):=by omega
  have i2:(n:Int)<=1000:=by omega
  clear h1;go_enter Tryz.func41,Tryz.ntmps41
  go_wp2_with fail
  first|go_ret|skip
  exact⟨⟨true,rfl,fun h=>by cases h⟩,H.out.bl⟩
 by_cases h2:1002<n
 ·have i1:(12:Int)<(n:Int):=by omega
  have i2:¬(n:Int)<=1000:=by omega
  have i3:(1002:Int)<(n:Int):=by omega
  clear h1 h2;go_enter Tryz.func41,Tryz.ntmps41
  go_wp2_with fail
  first|go_ret|skip
  exact⟨⟨true,rfl,fun h=>by cases h⟩,H.out.bl⟩
 have HC:=jq (show n<=1002/\(n<=12\/1000<n) by omega)
 have hc1:(decide ((12:Int)<(n:Int))&&decide ((n:Int)<=1000))=false:=by
  rw[Bool.and_eq_false_iff,decide_eq_false_iff_not,decide_eq_false_iff_not];omega
 have i3:¬(1002:Int)<(n:Int):=by omega
 have hsplit:(12<n/\¬(n:Int)<=1000)\/¬(12:Int)<(n:Int):=by omega
 clear h1 h2;go_enter Tryz.func41,Tryz.ntmps41
 rcases hsplit with ⟨j1,j2⟩|j1
 all_goals
  try (have j3:(12:Int)<(n:Int):=by omega)
  go_wp2_with fail
  go_loopw [2,3] (fun r i wr=>∃k:Nat,k<=n/\i=.int .i64 k/\r=.bool false/\Hid (Kp w [] wr)/\Hid (∀x∈xs.take k,GrX x)) (fun _ i _=>n-(intOf i).toNat)
  case atStart=>exact⟨0,Nat.zero_le _,rfl,rfl,H,(show ∀x∈xs.take 0,GrX x from fun x h=>by simp at h)⟩
  case round=>
   clear H;obtain⟨k,hk,rfl,rfl,H,HG⟩:=hrel
   by_cases hlt:k<n
   ·obtain⟨b,off,x,rfl,hb,hx,hr⟩:=(HS.out.below H.out.bl).at_ hlt
    obtain⟨f,v⟩:=x
    have hld:=Xs (show wr.rangeAt b (off+k*21) (ftA f v) from fun j u hu=>hr j u hu);have hfm:=HM.out _ (List.mem_of_getElem? hx);have HZ:=jq (Zbz f v wr H.out.pw (hfm.1.here H.out.bl) hfm.2.1 hfm.2.2);have HX:=jq hx;clear hx hr hb hfm;have k1:(0:Int)<=(k:Int):=by omega
    have k2:(k:Int)<(n:Int):=by omega
    go_wp2_with fail
    refine HZ.out.mono ?_;rintro e w3 ⟨⟨bz,rfl,hz⟩,hb3⟩;have HZZ:=jq hz;clear hz
    cases bz with
    |true=>
     go_wp2_with fail
     first|go_ret|skip
     exact⟨⟨true,rfl,fun h=>by cases h⟩,(H.out.here hb3).bl⟩
    |false=>
     go_wp2_with fail
     go_roundw
     case rel=>exact⟨k+1,by omega,by go_num,rfl,H.out.here hb3,(show ∀y∈xs.take (k+1),GrX y from JT HX.out HG.out (HZZ.out (by trivial)))⟩
     case measure=>simp[intOf];omega
   ·obtain rfl:k=n:=by omega
    go_wp2_with fail
    first|go_ret|skip
    exact⟨⟨false,rfl,fun _=>⟨HC.out,by have h:=HG.out;rwa [List.take_of_length_le (by have:=HNW.out;omega)] at h⟩⟩,H.out.bl⟩
end
section
attribute [local go_sem] Oper.semAt_some
attribute [local go_sem ↓] Go.wp_at_zero Go.wp_at_succ
theorem Zb3(s:List UInt8)(w:World)(_hl:s.length<=maxLen):Calls Tryz.prog 43 (#[S s]++#[]) w fun e w'=>e=.returned (.bool (decide (10<s.length)))/\Below w.1.size w w':=by
 have HB:=jq (Below.refl w.1.size w);have e:decide ((10:Int)<(s.length:Int))=decide (10<s.length):=by rw[decide_eq_decide];omega
 unfold S;go_enter Tryz.func43,Tryz.ntmps43
 go_wp2_with fail
 first|go_ret|skip
 refine⟨?_,HB.out⟩
 first|rfl|(rw[<-e];rfl)|(simp only[<-e];rfl)
def GxP(n:Nat)(xs:List Fx)(cs:List Ky)(e:Ending):Prop:=∃b,e=.returned (.bool b)/\(b=false->(n<=1002/\(n<=12\/1000<n))/\(∀x∈xs,GrX x)/\∀s∈cs,s.length<=10)
theorem ZcV(A A2:Option Addr)(n c n2 c2:Nat)(xs:List Fx)(cs:List Ky)(w:World)(hp:Env w)(hs:Sl YY 21 w w.1.size A n xs)(hm:∀x∈xs,FaM w w.1.size x.1 x.2/\x.2.pn<=9223372036854775807/\x.2.on<=9223372036854775807)(hn:n<=9223372036854775807)
 (hc:Vc w w.1.size A2 n2 cs) (hl:∀s∈cs,s.length<=maxLen) (hn2:n2<=9223372036854775807):
 Calls Tryz.prog 10 #[.slice A n c,.slice A2 n2 c2] w fun e w'=>GxP n xs cs e/\Below w.1.size w w':=by
 have HG:=jq (ZdF A n c xs w hp hs hm hn);have HCS:=jq (fun(h8:n2<=8) W (hW:Below w.1.size w W)=>YK 43 #[] (fun s=>decide (10<s.length)) A2 n2 c2 cs W (fun args w=>by rfl) (fun W2 s hs hb=>Zb3 s W2 (hl s hs)) (hc.here hW) (by omega));clear hs hm hc hl hp;go_enter Tryz.func10,Tryz.ntmps10
 go_wp2_with fail
 refine HG.out.mono ?_;rintro e w1 ⟨⟨b,rfl,hb⟩,hb1⟩;have HB:=jq hb;have HB1:=jq hb1;clear hb hb1 HG
 cases b with
 |true=>
  clear HCS;go_wp2_with fail
  first|go_ret|skip
  exact⟨⟨true,rfl,fun h=>by cases h⟩,HB1.out⟩
 |false=>
  replace HB:=jq (HB.out (by first|rfl|trivial))
  by_cases h8:8<n2
  ·have i8:(8:Int)<(n2:Int):=by omega
   clear HCS;go_wp2_with fail
   first|go_ret|skip
   exact⟨⟨true,rfl,fun h=>by cases h⟩,HB1.out⟩
  ·have i8:¬(8:Int)<(n2:Int):=by omega
   replace HCS:=jq (HCS.out (by omega));go_wp2_with fail
   refine(HCS.out w1 HB1.out).mono ?_;rintro e w2 ⟨rfl,hb2⟩;have HB2:=jq (HB1.out.trans (hb2.mono HB1.out.size))
   have HAN:=jq (show cs.any (fun s=>decide (10<s.length))=false->∀s∈cs,s.length<=10 from fun h s hs=>by
    rw[List.any_eq_false] at h;have:=h s hs
    simp only[decide_eq_true_eq] at this;omega)
   generalize cs.any (fun s=>decide (10<s.length))=z at*;clear hb2
   cases z<;>go_wp2_with fail
   ·first|go_ret|skip
    exact⟨⟨decide ((8:Int)<(n2:Int)),rfl,fun _=>⟨HB.out.1,HB.out.2,HAN.out (by first|rfl|trivial)⟩⟩,HB2.out⟩
   ·first|go_ret|skip
    exact⟨⟨true,rfl,fun h=>by cases h⟩,HB2.out⟩
end
end Go.Proofs.YtokjnjdbnabchaaGreatDoor
