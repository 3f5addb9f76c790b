/- Vck, Vch, Ep0, Vun. -/
import Derived.Test.YtokjnjdbnabchaaGreatDoorQGEp26
import Derived.Test.YtokjnjdbnabchaaGreatDoorQGEp40
set_option maxRecDepth 100000
set_option maxHeartbeats 8000000
namespace Go.Proofs.YtokjnjdbnabchaaGreatDoor
open Go.Lib renaming hid→jq
open Go.RowKit Go.Shelf
section
attribute [local go_sem] Oper.semAt_some
attribute [local go_sem ↓] Go.wp_at_zero Go.wp_at_succ Qs QG
theorem XJ{xs:List Fx}{k:Nat}{f:Fct}{v:FaV}(h:xs[k]?=some (f,v)):(xs.map (·.1)).take (k+1)=(xs.map (·.1)).take k++[f]:=by
 obtain⟨hk,e⟩:=List.getElem?_eq_some_iff.1 h
 rw[List.take_succ_eq_append_getElem (by simpa using hk),List.getElem_map,e]
theorem ZhL{xs:List Fx}{k:Nat}{f:Fct}{v:FaV}(h:xs[k]?=some (f,v)):((xs.map (·.1)).take (k+1)).getLast?=some f:=by rw[XJ h,List.getLast?_append];rfl
theorem ZcK{pre:List Fct}{f:Fct}{seen:List (List UInt8)}(h:∀s,decide (s∈seen)=pre.any fun g=>g.key==s):∀s,decide (s∈f.key::seen)=(pre++[f]).any fun g=>g.key==s:=by
 intro s;have h1:=h s;rw[List.any_append,List.any_cons,List.any_nil,Bool.or_false,<-h1]
 by_cases e:f.key=s
 ·subst e;rw[beq_self_eq_true,Bool.or_true];exact decide_eq_true (List.mem_cons_self ..)
 ·rw[beq_false_of_ne e,Bool.or_false];have h2:(s∈f.key::seen)↔s∈seen:=by rw[List.mem_cons];exact⟨fun h=>h.elim (fun h=>absurd h.symm e) id,.inr⟩
  simp only[h2]
theorem Jn(A:Option Addr)(n c:Nat)(xs:List Fx)(w:World)(hp:Env w)(hs:Fxs w w.1.size A n xs)(hn:n<=1000000000):
 Calls Tryz.prog 58 #[.slice A n c] w fun e w'=>e=.returned (.int .i64 (Va (xs.map (·.1))))/\Below w.1.size w w':=by
 have hsc:Va (xs.map (·.1))=if 1000<(xs.map (·.1)).length then 4 else ZbC [] (xs.map (·.1)):=rfl
 rw[List.length_map,<-hs.len] at hsc;have HSC:=jq hsc;generalize Va (xs.map (·.1))=res at*;have HS:=jq hs;have HNW:=jq hs.len;have H:=jq (Kp.start hp);clear hs hp hsc
 by_cases h1:1000<n
 ·have hq:=HSC.out;rw[if_pos h1] at hq;have HQ:=jq hq;clear hq hn;go_enter Tryz.func58,Tryz.ntmps58
  go_wp2_with fail
  first|go_ret|skip
  exact⟨Qa HQ.out.symm,H.out.bl⟩
 have hq:=HSC.out;rw[if_neg h1] at hq;have HQ:=jq hq;clear hq HSC;have hmm:= @run_makeMap Tryz.prog;have HM:=jq (Za3 w);have H1:=jq (H.out.alloc (.map #[] 0));clear H;go_enter Tryz.func58,Tryz.ntmps58
 go_wp2_with fail
 generalize hW:w.alloc (.map #[] 0)=W at*;obtain⟨p,hpw⟩:∃p,w.1.size=p:=⟨_,rfl⟩
 rw[hpw] at HM ⊢;have HP:=jq hpw;clear hpw hW
 go_loopw [2,4,5,6,13] (fun r _ _ _ i wr=>∃(k:Nat) (seen:List (List UInt8)),k<=n/\r=.int .i64 0/\i=.int .i64 k/\Hid (Kp w [] wr)/\Hid (SeenB wr p k seen)/\Hid (∀s,decide (s∈seen)=((xs.map (·.1)).take k).any fun g=>g.key==s)/\Hid (ZbC ((xs.map (·.1)).take k) ((xs.map (·.1)).drop k)=res)) (fun _ _ _ _ i _=>n-(intOf i).toNat)
 case atStart=>exact⟨0,[],Nat.zero_le _,rfl,rfl,H1,HM,(show ∀s:List UInt8,decide (s∈([]:List (List UInt8)))=_ by intro s;simp),by show _=_;rw[List.drop_zero,List.take_zero];exact HQ.out.symm⟩
 case round=>
  clear H1 HM HQ;obtain⟨k,seen,hk,rfl,rfl,H,HM,HA,HQ⟩:=hrel
  by_cases hlt:k<n
  ·obtain⟨b,off,f,v,rfl,hb,hx,hm,hr⟩:=(HS.out.below H.out.bl).at_ hlt
   have hld:=Xs hr;have hst:=fun cs (hc:cs.size=21)=>Yz wr f v (cs:=cs) hc
   have HX:=jq hx;have HFM:=jq ((hm.more H.out.bl.size).here ((Below.refl _ wr).alloc (Nat.le_refl _) (.cells (Qe f v) 44)));have HB:=jq (H.out.new wr.1.size rfl (Qe f v) 44);have HM2:=jq (HM.out.alloc (.cells (Qe f v) 44))
   have HLC:=jq (show res=if QL f≠0 then QL f else if f.cancelled=true then 19 else if f.stamp≠0 then 1 else if(((xs.map (·.1)).take k).any fun g=>g.key==f.key)=true then 5
    else if ZaZ ((xs.map (·.1)).take k).getLast? f=true then 8 else ZbC ((xs.map (·.1)).take k++[f]) ((xs.map (·.1)).drop (k+1)) by
     have h:=HQ.out;rw[ZhH hx] at h;exact h.symm)
   clear hx hr hb hm HQ HM;go_upto_region 7 with (fail)
   generalize wr.alloc (.cells (Qe f v) 44)=W1 at*;clear hld hst;generalize hbb:wr.1.size=b1 at*;clear hbb H;have hl1:=Xp (HB.out.at_ 0 rfl) (QV f v);have HC:=jq (ZhI HB.out.pw HFM.out);go_wp2_with fail
   refine HC.out.mono ?_;rintro e W2 ⟨rfl,hb2⟩;replace HB:=jq (HB.out.here hb2);replace HM2:=jq (HM2.out.here hb2);replace HFM:=jq (HFM.out.here hb2);clear hl1 hb2 HC;have c0:=HB.out.c 0 0 rfl (show(Qe f v)[0]?=some (.string ⟨f.key.toArray⟩) from rfl);have c1:=HB.out.c 0 1 rfl (show(Qe f v)[1]?=some (.int .i64 f.stamp) from rfl);have c2:=HB.out.c 0 2 rfl (show(Qe f v)[2]?=some (.bool f.cancelled) from rfl);have hlk:=HM2.out.look (t:=125) Tryz.underlying125 (s:=f.key) (by have:=HFM.out.sz.key;unfold maxLen;simp only at this;omega);rw[HA.out f.key] at hlk;have HKL:=jq (show f.key.length<=maxLen by have:=HFM.out.sz.key;unfold maxLen;simp only at this;omega);generalize QL f=z at*
   by_cases hz:z=0
   case neg=>
    have hz0:(z !=0)=true:=by simp[hz]
    have hq:=HLC.out;rw[if_pos hz] at hq;have HQ2:=jq hq;clear hz hq HLC;go_wp2_with fail
    first|go_ret|skip
    exact⟨Qa HQ2.out.symm,HB.out.bl⟩
   have hz0:(z !=0)=false:=by simp[hz]
   have hq:=HLC.out;rw[if_neg (by simpa using hz)] at hq;clear HLC hz
   cases hcn:f.cancelled with
   |true=>
    rw[if_pos hcn] at hq;rw[hcn] at c2;have HQ2:=jq hq;clear hq hcn;go_wp2_with fail
    first|go_ret|skip
    exact⟨Qa HQ2.out.symm,HB.out.bl⟩
   |false=>
   rw[if_neg (by rw[hcn];decide)] at hq;rw[hcn] at c2;clear hcn
   by_cases hs:f.stamp=0
   case neg=>
    rw[if_pos hs] at hq;have HQ2:=jq hq;have hs0:(f.stamp !=0)=true:=by simp[hs]
    clear hq hs;go_wp2_with fail
    first|go_ret|skip
    exact⟨Qa HQ2.out.symm,HB.out.bl⟩
   rw[if_neg (by simpa using hs)] at hq;rw[hs] at c1;clear hs
   cases hin:((xs.map (·.1)).take k).any (fun g=>g.key==f.key) with
   |true=>
    rw[if_pos hin] at hq;rw[hin] at hlk;have HQ2:=jq hq;clear hq hin;go_wp2_with fail
    first|go_ret|skip
    exact⟨Qa HQ2.out.symm,HB.out.bl⟩
   |false=>
   rw[if_neg (by rw[hin];decide)] at hq;rw[hin] at hlk;clear hin
   cases k with
   |zero=>
    have HQ2:=jq (show res=ZbC ((xs.map (·.1)).take (0+1)) ((xs.map (·.1)).drop (0+1)) by rw[XJ HX.out,hq];rfl);have HA2:=jq (ZcK (f:=f) HA.out);rw[<-XJ HX.out] at HA2;have HC0:=jq (fun q=>(HB.out.drewN q).c 0 0 rfl (show(Qe f v)[0]?=some (.string ⟨f.key.toArray⟩) from rfl));have HI:=jq (show 0<maxLen by unfold maxLen;omega);clear hq;go_upto_region 16 with (fail)
    go_quiet (fail)
    rename_i nq
    have c0':=HC0.out nq;obtain⟨W3,hput,HM3,hg⟩:=(HM2.out.here (bdN (Below.refl _ W2) nq)).put (t:=125) Tryz.underlying125 HI.out (s:=f.key) HKL.out
    have HK3:=jq ((HB.out.drewN nq).bare.turn hg (by have:=HP.out;omega));have HM4:=jq HM3;clear HM3 hg;go_wp2_with fail
    go_roundw
    case rel=>exact⟨1,f.key::seen,by omega,rfl,rfl,HK3,HM4,HA2.out,HQ2.out.symm⟩
    case measure=>simp[intOf];omega
   |succ j=>
    obtain⟨b',off',g,u,hA,hb',hx',hm',hr'⟩:=(HS.out.below HB.out.bl).at_ (i:=j) (by omega)
    injection hA with hA;injection hA with hA1 hA2;subst hA1;subst hA2
    rw[ZhL hx',show ZaZ (some g) f=decide (0<=YG g f) from rfl] at hq;have HRN:=jq hr';have HBN:=jq hb'
    have HZ:=jq (show ∀X,Below W2.1.size W2 X->(ldF (.pointer (some ⟨b,off+j*21,none⟩))).run Tryz.prog X=.ok (.agg (Qe g u)) X/\(ldF (.pointer (some ⟨b1,0,none⟩))).run Tryz.prog X=.ok (.agg (Qe f v)) X from
     fun X hb=>⟨Xs (ZaA HRN.out (hb.mono HB.out.bl.size) HBN.out),Xp ((HB.out.here hb).at_ 0 rfl) (QV f v)⟩)
    have HBL:=jq (Below.refl W2.1.size W2);have HCM:=jq (fun W (hp:Env W)=>ZbN g f u v hm'.sz.kind HFM.out.sz.kind W hp);have HPW:=jq (fun W (hb:Below W2.1.size W2 W)=>(HB.out.here hb).pw);have HBN2:=jq (fun W (hb:Below W2.1.size W2 W)=>HB.out.here hb);have HMN:=jq (fun W (hb:Below W2.1.size W2 W)=>HM2.out.here hb);have HCL:=jq (fun W (hb:Below W2.1.size W2 W)=>(HB.out.here hb).c 0 0 rfl (show(Qe f v)[0]?=some (.string ⟨f.key.toArray⟩) from rfl));generalize YG g f=cz at*;have i1:(0:Int)<=(j:Int):=by omega
    have i2:(j:Int)<(n:Int):=by omega
    have i3:(0:Int)<(j:Int)+1:=by omega
    have hw1:IntKind.i64.wrap (((j+1:Nat):Int)-1)=(j:Int):=by simp[IntKind.wrap,IntKind.bits,IntKind.signed];omega
    have hw2:IntKind.i64.wrap ((j:Int)+1-1)=(j:Int):=by simp[IntKind.wrap,IntKind.bits,IntKind.signed];omega
    have hw3:IntKind.i64.wrap (j:Int)=(j:Int):=by simp[IntKind.wrap,IntKind.bits,IntKind.signed];omega
    clear hr' hx' hm' hb' HB
    by_cases hc:0<=cz
    ·rw[if_pos (by simpa using hc)] at hq;have HQ2:=jq hq;clear hq;go_upto_region 16 with (fail)
     go_region_held3 (fun X=>(ldF (.pointer (some ⟨b,off+j*21,none⟩))).run Tryz.prog X=.ok (.agg (Qe g u)) X/\(ldF (.pointer (some ⟨b1,0,none⟩))).run Tryz.prog X=.ok (.agg (Qe f v)) X)
      (first|exact HZ.out _ hz2|exact HZ.out _ HBL.out.drew|exact HZ.out _ HBL.out|go_keep)
      (first|(go_at_call 105;refine(HCM.out _ (HPW.out _ HBL.out.drew)).mono ?_;rintro e w3 ⟨rfl,hb3⟩;have hz2:Below W2.1.size W2 w3:=HBL.out.drew.trans hb3))
     all_goals
      go_wp2_with fail
      first|go_ret|skip
      exact⟨Qa HQ2.out.symm,(HBN2.out _ hz2).bl⟩
    ·rw[if_neg (by simpa using hc)] at hq;have HQ2:=jq (show res=ZbC ((xs.map (·.1)).take (j+1+1)) ((xs.map (·.1)).drop (j+1+1)) by rw[XJ HX.out,hq]);have HA2:=jq (ZcK (f:=f) HA.out);rw[<-XJ HX.out] at HA2;have HI:=jq (show j+1<maxLen by unfold maxLen;omega);clear hq;go_upto_region 16 with (fail)
     go_region_held3 (fun X=>(ldF (.pointer (some ⟨b,off+j*21,none⟩))).run Tryz.prog X=.ok (.agg (Qe g u)) X/\(ldF (.pointer (some ⟨b1,0,none⟩))).run Tryz.prog X=.ok (.agg (Qe f v)) X)
      (first|exact HZ.out _ hz2|exact HZ.out _ HBL.out.drew|exact HZ.out _ HBL.out|go_keep)
      (first|(go_at_call 105;refine(HCM.out _ (HPW.out _ HBL.out.drew)).mono ?_;rintro e w3 ⟨rfl,hb3⟩;have hz2:Below W2.1.size W2 w3:=HBL.out.drew.trans hb3))
     all_goals
      have c0':=HCL.out _ hz2;obtain⟨W3,hput,HM3,hg⟩:=(HMN.out _ hz2).put (t:=125) Tryz.underlying125 HI.out (s:=f.key) HKL.out
      have HK3:=jq ((HBN2.out _ hz2).bare.turn hg (by have:=HP.out;omega));have HM4:=jq HM3;clear HM3 hg;go_wp2_with fail
      go_roundw
      case rel=>exact⟨j+1+1,f.key::seen,by omega,rfl,by go_num,HK3,HM4,HA2.out,HQ2.out.symm⟩
      case measure=>simp[intOf];omega
  ·have HE:=jq (show res=0 by
    have:=HQ.out
    rw[List.drop_eq_nil_of_le (by rw[List.length_map];have:=HNW.out;omega)] at this;exact this.symm)
   go_wp2_with fail
   first|go_ret|skip
   exact⟨Qa HE.out.symm,H.out.bl⟩
end
section
attribute [local go_sem] Oper.semAt_some
attribute [local go_sem ↓] Qs QG
theorem ZbO(s:List UInt8):∀u∈S1 s,u.oneCell'=true:=by
 intro u hu;simp only[S1,S,List.mem_singleton] at hu;subst hu;rfl
theorem Zam:Yt Tryz.prog 32 9 1 16:=Vu Tryz.underlying32 (by kernel_rfl) (by decide) (by decide)
theorem Zd6{W:World}{q:Nat}{s:List UInt8}{T:TypeId}(h:BlkB W q #[.string ⟨s.toArray⟩] T):Sl S1 1 W W.1.size (some ⟨q,0,none⟩) 1 [s]:=by
 refine⟨rfl,fun _=>⟨q,0,rfl,h.lt,fun j z hj k u hk=> ?_⟩⟩
 cases j with
 |zero=>
  simp only[List.getElem?_cons_zero,Option.some.injEq] at hj;subst hj;rw[Nat.zero_mul,Nat.zero_add];exact h.cell k (by simpa[S1,S] using hk)
 |succ j=>simp at hj
def KsPost(res:List (List UInt8))(err:Int)(w:World):Ending->World->Prop:=fun e w'=>∃A c,e=.returned (.tuple #[.slice A res.length c,.int .i64 err])/\Own S1 1 9 w' w.1.size (.slice A res.length c) res/\Below w.1.size w w'
theorem KsPost.empty{w w':World}{e2:Int}(hb:Below w.1.size w w'):KsPost [] e2 w (.returned (.tuple #[.slice none 0 0,.int .i64 e2])) w':=⟨none,0,rfl,Own.nil,hb⟩
def k1(xs ys:List Fx):List (List UInt8):=(Zi6 (xs.map (·.1)) (ys.map (·.1))).map (·.key)
structure ChI {xs:List Fx} (w:World) (p0 sz:Nat) (out0:List (List UInt8)) (ds:List Nat) (pre:List (InE xs)) (W:World):Prop where
 ex:∃(A:Option Addr) (c:Nat) (ks:List (List UInt8)),Box W p0 32 (.slice A ks.length c)/\Own S1 1 9 W w.1.size (.slice A ks.length c) ks/\ks=out0++(ZiS pre).map (·.key)
 bl:Below w.1.size w W
 le:sz<=W.1.size
 df:∀d∈ds,W.heap[d]?=some (.deferred (some []))
theorem ChI.own{xs:List Fx}{w:World}{p0 sz:Nat}{out0:List (List UInt8)}{ds:List Nat}(hsz:w.1.size<=sz)(hds:∀d∈ds,d<sz):OwnFrom sz (fun pre W=>ChI (xs:=xs) w p0 sz out0 ds pre W):=by
 rintro pre W W' row ⟨⟨A,c,ks,h1,h2,h3⟩,hb,hle,hd⟩ hg hr;have hbb:=QR (B:=w.1.size) hg (by omega) hsz (fun r e=>(hr r e).1);exact⟨⟨A,c,ks,h1.turned hg hr,h2.turned hg hr,h3⟩,hb.trans hbb,Nat.le_trans hle hg.size,fun d hm=>(hg.block d (Array.getElem?_eq_some_iff.1 (hd d hm)).1 (fun e=>by have:=(hr d e.symm).1;have:=hds d hm;omega)).trans (hd d hm)⟩
end
section
attribute [local go_sem] Oper.semAt_some
attribute [local go_sem ↓] Go.wp_at_zero Go.wp_at_succ
theorem Zdx(a:Addr)(n c:Nat)(xs:List (List UInt8))(w:World)(hr:Vc w w.1.size (some a) n xs)(hn:n<=1000000):
 Calls Tryz.prog 71 #[.slice (some a) n c] w (RetOwn S1 1 9 w.1.size w xs):=by
 have HR:=jq (hr.alloc (Nat.le_refl _) (.cells #[] 9));clear hr;have hnil:(binOp .eql 32 (.slice (some a) n c) (.slice none 0 0)).run Tryz.prog w=.ok (.bool false) w:=run_eql_slice_nil w 32 9 _ n c Tryz.underlying32;go_enter Tryz.func71,Tryz.ntmps71
 go_wp2_with (at_builtin;refine QJ _ rfl (.tmp 5) (.tmp 6) _ rfl Zam XY ZbO (base:=w.1.size) (.slice (some ⟨w.1.size,0,none⟩) 0 0) [] rfl (Own.lit w #[] 9 [] rfl XY (Nat.le_refl _) (by simp)) _ _ n c xs rfl HR.out (by simp;omega) (by simp) ?_
              intro A3 c3 w3 ho3 hg3 _;rw[List.length_nil,Nat.zero_add] at ho3 ⊢;rw[List.nil_append] at ho3;have hb3:Below w.1.size w w3:=Xb ((Below.refl _ _).alloc (Nat.le_refl _) _) hg3 (by simp) (fun g e=>by simp[Value.ownBlock] at e;omega);have HO3:=jq ho3;clear ho3 hg3)
 go_ret
 exact RetOwn.mk rfl HO3.out hb3
theorem ZcN(s:List UInt8)(bb bm n:Nat)(l:List (List UInt8))(w:World)(hb:Box w bb 125 (.map (some bm)))(hs:SeenB w bm n l)(hn:n<maxLen)(hl:s.length<=maxLen):
 Calls Tryz.prog 92 (#[.string ⟨s.toArray⟩]++#[.pointer (some ⟨bb,0,none⟩)]) w fun e w'=>e=.returned (.bool (!decide (s∈l)))/\SeenB w' bm (n+1) (s::l)/\w.grownBy w' (some bm):=by
 have c0:=hb.cell;have hlk:=hs.look (t:=125) Tryz.underlying125 hl;obtain⟨w3,hput,hs3,hg3⟩:=hs.put (t:=125) Tryz.underlying125 hn hl
 have HS:=jq hs3;have HG:=jq hg3;clear hb hs hs3 hg3;generalize decide (s∈l)=z at*
 show Calls _ _ #[.string ⟨s.toArray⟩,.pointer (some ⟨bb,0,none⟩)] _ _
 go_enter Tryz.func92,Tryz.ntmps92
 go_wp2_with fail
 go_ret
 exact⟨rfl,HS.out,HG.out⟩
end
section
attribute [local go_sem] Oper.semAt_some
attribute [local go_sem ↓] Qs QG Zfh
theorem ZgN{p:Fct->Bool}{xs:List Fx}{k:Nat}{f:Fct}{v:FaV}(h:xs[k]?=some (f,v))(hp:p f=true):((xs.map (·.1)).take (k+1)).filter p=((xs.map (·.1)).take k).filter p++[f]:=by
 rw[XJ h,List.filter_append,List.filter_cons_of_pos hp];rfl
theorem ZgO{p:Fct->Bool}{xs:List Fx}{k:Nat}{f:Fct}{v:FaV}(h:xs[k]?=some (f,v))(hp:p f=false):((xs.map (·.1)).take (k+1)).filter p=((xs.map (·.1)).take k).filter p:=by
 rw[XJ h,List.filter_append,List.filter_cons_of_neg (by rw[hp];decide),List.filter_nil,List.append_nil]
theorem ZcZ(A:Option Addr)(n c:Nat)(xs:List Fx)(d:Int)(w:World)(hp:Env w)(hs:Fxs w w.1.size A n xs)(hn:n<=100000):
 Calls Tryz.prog 24 #[.slice A n c,.int .i64 d] w (FsPost (XF (xs.map (·.1)) d).1 (XF (xs.map (·.1)) d).2 w):=by
 have HCK:=jq (Jn A n c xs w hp hs (by omega));have hof:XF (xs.map (·.1)) d=if Va (xs.map (·.1))≠0 then([],1) else if d< -25567\/84005<d then([],13) else((xs.map (·.1)).filter (fun f=>decide (f.day<=d)),0):=rfl
 generalize Va (xs.map (·.1))=lc at*;generalize XF (xs.map (·.1)) d=res at*;generalize hpo:FsPost res.1 res.2 w=post;have HPO:=jq hpo;clear hpo;have HNW:=jq hs.len;have HS:=jq hs;have H:=jq (Kp.start hp);clear hs hp
 by_cases h0:lc=0
 case neg=>
  rw[if_pos h0] at hof;have HRS:=jq hof;have hz:(lc !=0)=true:=by simp[h0]
  clear hof h0;go_enter Tryz.func24,Tryz.ntmps24
  go_wp2_with (go_at_call 58;refine HCK.out.mono ?_;rintro e w1 ⟨rfl,hb1⟩)
  first|go_ret2|skip
  rw[<-HPO.out,HRS.out];exact FsPost.empty hb1
 rw[if_neg (by simpa using h0)] at hof;subst h0
 by_cases hk0:d< -25567
 ·rw[if_pos (.inl hk0)] at hof;have HRS:=jq hof;clear hof;go_enter Tryz.func24,Tryz.ntmps24
  go_wp2_with (go_at_call 58;refine HCK.out.mono ?_;rintro e w1 ⟨rfl,hb1⟩)
  first|go_ret2|skip
  rw[<-HPO.out,HRS.out];exact FsPost.empty hb1
 by_cases hk1:84005<d
 ·rw[if_pos (.inr hk1)] at hof;have HRS:=jq hof;clear hof;go_enter Tryz.func24,Tryz.ntmps24
  go_wp2_with (go_at_call 58;refine HCK.out.mono ?_;rintro e w1 ⟨rfl,hb1⟩)
  first|go_ret2|skip
  rw[<-HPO.out,HRS.out];exact FsPost.empty hb1
 rw[if_neg (by omega)] at hof;have HRS:=jq hof;clear hof;go_enter Tryz.func24,Tryz.ntmps24
 go_wp2_with (go_at_call 58;refine HCK.out.mono ?_;rintro e w1 ⟨rfl,hb1⟩)
 have H1:=jq (H.out.here hb1);clear hb1 H HCK
 go_loopw [6,8,20] (fun o _ i wr=>∃(k:Nat) (A1:Option Addr) (c1:Nat) (ys:List Fx),k<=n/\o=.slice A1 ys.length c1/\i=.int .i64 k/\Hid (Kp w [] wr)/\Hid (Own YY 21 44 wr w.1.size (.slice A1 ys.length c1) ys)/\Hid (ys.map (·.1)=((xs.map (·.1)).take k).filter (fun f=>decide (f.day<=d)))/\Hid (∀y∈ys,y∈xs)) (fun _ _ i _=>n-(intOf i).toNat)
 case atStart=>exact⟨0,none,0,[],Nat.zero_le _,rfl,rfl,H1,Own.nil,rfl,(show ∀y∈([]:List Fx),y∈xs from fun y hy=>by cases hy)⟩
 case round=>
  clear H1;obtain⟨k,A1,c1,ys,hk,rfl,rfl,H,HO,HY,HM⟩:=hrel
  by_cases hlt:k<n
  ·obtain⟨b,off,f,v,rfl,hb,hx,hm,hr⟩:=(HS.out.below H.out.bl).at_ hlt
   have hld:=Xs hr;have hst:=fun cs (hc:cs.size=21)=>Yz wr f v (cs:=cs) hc
   have HX:=jq hx;have HB:=jq (H.out.new wr.1.size rfl (Qe f v) 44);have HO1:=jq (HO.out.alloc (.cells (Qe f v) 44))
   have HYL:=jq (show ys.length<=100000 by
    have h1:=congrArg List.length HY.out;rw[List.length_map] at h1;have h2:=List.length_filter_le (fun f:Fct=>decide (f.day<=d)) ((xs.map (·.1)).take k);rw[List.length_take] at h2;omega)
   clear hx hr hb hm HO;go_upto_region 9 with (fail)
   generalize wr.alloc (.cells (Qe f v) 44)=W1 at*;clear hld hst;generalize hbb:wr.1.size=b1 at*;clear hbb;have c3:=HB.out.c 0 3 rfl (show(Qe f v)[3]?=some (.int .i64 f.day) from rfl);have hl1:=Xp (HB.out.at_ 0 rfl) (QV f v)
   by_cases hd:f.day<=d
   ·have HYN:=jq (ZgN (p:=fun f=>decide (f.day<=d)) HX.out (decide_eq_true hd));have hbf:=Zfi W1 f v;have HSL:=jq (Zio (f:=f) (v:=v) (heap_alloc_new W1 (.cells (Qe f v) 44)));have HO2:=jq (HO1.out.alloc (.cells (Qe f v) 44));have HB2:=jq (HB.out.alloc (.cells (Qe f v) 44));generalize W1.alloc (.cells (Qe f v) 44)=W2 at*;go_wp2_with (at_builtin;refine QJ _ rfl (.tmp 28) (.tmp 30) _ rfl ZeA YO ZdL (base:=w.1.size) (.slice A1 ys.length c1) ys rfl HO2.out _ _ 1 1 [(f,v)] rfl HSL.out (by have:=HYL.out;omega) HB2.out.bl.size ?_;intro A2 c2 w2 ho2 hg2 hat2;have HO3:=jq ho2;have HG2:=jq hg2;clear ho2 hg2 hat2)
    go_roundw
    case rel=>
     refine⟨k+1,A2,c2,ys++[(f,v)],by omega,by rw[List.length_append];rfl,by go_num,?_,(by have h:=HO3.out;rw[List.length_append];exact h),(show _=_ by rw[List.map_append,HY.out,HYN.out];rfl),fun y hy=> ?_⟩
     ·refine⟨HB2.out.pow,HB2.out.bl.trans (QR HG2.out HB2.out.bl.size (Nat.le_refl _) (fun r e=> ?_)),fun _ h=>by simp at h,.nil,fun _ h=>by simp at h⟩;obtain⟨_,_,_,_,_,_,h5⟩:=HO2.out.form
      exact(h5 r e).2.1
     ·rcases List.mem_append.1 hy with hy|hy
      ·exact HM.out y hy
      ·rw[List.mem_singleton.1 hy];exact List.mem_of_getElem? HX.out
    case measure=>simp[intOf];omega
   ·have HYN:=jq (ZgO (p:=fun f=>decide (f.day<=d)) HX.out (decide_eq_false hd));go_wp2_with fail
    go_roundw
    case rel=>exact⟨k+1,A1,c1,ys,by omega,rfl,by go_num,HB.out.bare,HO1.out,(show _=_ by rw[HY.out,HYN.out]),HM.out⟩
    case measure=>simp[intOf];omega
  ·obtain rfl:k=n:=by omega
   have HYN:=jq (show ys.map (·.1)=(xs.map (·.1)).filter (fun f=>decide (f.day<=d)) by have h:=HY.out;rwa [List.take_of_length_le (by rw[List.length_map,<-HNW.out];exact Nat.le_refl _)] at h);go_wp2_with fail
   first|go_ret2|skip
   rw[<-HPO.out,HRS.out];exact⟨A1,c1,ys,rfl,⟨HO.out.sl YO,fun y hy=>((HS.out.all y (HM.out y hy)).below H.out.bl).more H.out.bl.size⟩,HYN.out,⟨HO.out.room.1,HO.out.room.2.1,HO.out.room.2.2,fun y hy=>(HS.out.all y (HM.out y hy)).below H.out.bl⟩,H.out.bl⟩
end
end Go.Proofs.YtokjnjdbnabchaaGreatDoor
