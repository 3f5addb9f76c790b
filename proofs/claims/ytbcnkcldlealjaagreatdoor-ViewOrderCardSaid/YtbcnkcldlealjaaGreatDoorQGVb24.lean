/- Vlg, Vfn, Vaw, Vby. -/
import Derived.Test.YtbcnkcldlealjaaGreatDoorQGVb18
import Derived.Test.YtbcnkcldlealjaaGreatDoorQGVb10
set_option maxRecDepth 100000
set_option maxHeartbeats 4000000
namespace Go.Proofs.YtbcnkcldlealjaaGreatDoor
open Go.Lib renaming hid→jq
open Go.RowKit Go.Shelf
section
attribute [local go_sem] Oper.semAt_some
attribute [local go_sem ↓] Qq QA
def ZfL(xs:List Fx):Nat->Option Int
 |0=>none
 |j+1=>xs[j]?.map (·.1.stamp)
theorem ZeX{xs:List Fx}{k:Nat}{f:Fct}{v:FaV}(h:xs[k]?=some (f,v)):(xs.map (·.1)).drop k=f::(xs.map (·.1)).drop (k+1):=by
 obtain⟨hk,e⟩:=List.getElem?_eq_some_iff.1 h
 rw[List.drop_eq_getElem_cons (by simpa using hk),List.getElem_map,e]
theorem Jq{w:World}{x:Fx}(hp:Env w)(h:FxM w w.1.size x):Calls Tryz.prog 27 #[.agg (Qa x.1 x.2)] w fun e w'=>e=.returned (.int .i64 (Qf x.1))/\Below w.1.size w w':=
 Zef x.1 x.2 w hp h.sz h.m h.pn h.on
theorem Zar(A:Option Addr)(n c:Nat)(xs:List Fx)(w:World)(hp:Env w)(hs:Fxs w w.1.size A n xs)(hn:n<=1000000000):
 Calls Tryz.prog 43 #[.slice A n c] w fun e w'=>e=.returned (.int .i64 (Vq (xs.map (·.1))))/\Below w.1.size w w':=by
 have hsc:Vq (xs.map (·.1))=if 1000<(xs.map (·.1)).length then 4 else Za9 none (xs.map (·.1)):=rfl
 rw[List.length_map,<-hs.len] at hsc;have HSC:=jq hsc;generalize Vq (xs.map (·.1))=res at*;have HS:=jq hs;have HNW:=jq hs.len;have H:=jq (Kp.start hp);clear hs hp hsc
 by_cases h1:1000<n
 ·have hq:=HSC.out;rw[if_pos h1] at hq;have HQ:=jq hq;clear hq hn;go_enter Tryz.func43,Tryz.ntmps43
  go_wp2_with fail
  first|go_ret|skip
  exact⟨Qb HQ.out.symm,H.out.bl⟩
 have hq:=HSC.out;rw[if_neg h1] at hq;have HQ:=jq hq;clear hq HSC;go_enter Tryz.func43,Tryz.ntmps43
 go_wp2_with fail
 go_loopw [2,3,4,5,11] (fun r _ _ _ i wr=>∃k:Nat,k<=n/\r=.int .i64 0/\i=.int .i64 k/\Hid (Kp w [] wr)/\Hid (Za9 (ZfL xs k) ((xs.map (·.1)).drop k)=res)) (fun _ _ _ _ i _=>n-(intOf i).toNat)
 case atStart=>exact⟨0,Nat.zero_le _,rfl,rfl,H,by show _=_;rw[List.drop_zero];exact HQ.out.symm⟩
 case round=>
  clear H HQ;obtain⟨k,hk,rfl,rfl,H,HQ⟩:=hrel
  by_cases hlt:k<n
  ·obtain⟨b,off,f,v,rfl,hb,hx,hm,hr⟩:=(HS.out.below H.out.bl).at_ hlt
   have hld:=Qi hr;have hst:=fun cs (hc:cs.size=21)=>Qj wr f v (cs:=cs) hc
   have HX:=jq hx;have HM:=jq ((hm.more H.out.bl.size).here ((Below.refl _ wr).alloc (Nat.le_refl _) (.cells (Qa f v) 44)));have HB:=jq (H.out.new wr.1.size rfl (Qa f v) 44);have HDR:=jq (show Za9 (ZfL xs k) (f::(xs.map (·.1)).drop (k+1))=res by rw[<-ZeX hx];exact HQ.out);clear hx hr hb hm HQ;go_upto_region 6 with (fail)
   generalize wr.alloc (.cells (Qa f v) 44)=W1 at*;clear hld hst;generalize hbb:wr.1.size=b1 at*;clear hbb;have hl1:=Qk (HB.out.at_ 0 rfl) (Qe f v);have HC:=jq (Jq HB.out.pw HM.out);go_wp2_with fail
   refine HC.out.mono ?_;rintro e W2 ⟨rfl,hb2⟩;replace HB:=jq (HB.out.here hb2);have HLC:=jq (show Za9 (ZfL xs k) (f::(xs.map (·.1)).drop (k+1))=if Qf f≠0 then Qf f else if Za8 (ZfL xs k) f.stamp=true then 8 else Za9 (some f.stamp) ((xs.map (·.1)).drop (k+1)) from rfl);rw[HDR.out] at HLC;clear hl1 hb2 HC HM HDR;have c1:=HB.out.c 0 1 rfl (show(Qa f v)[1]?=some (.int .i64 f.stamp) from rfl);have HNX:=jq (show ZfL xs (k+1)=some f.stamp by show xs[k]?.map (·.1.stamp)=_;rw[HX.out];rfl);generalize Qf f=z at*
   by_cases hz:z=0
   ·have hz0:(z !=0)=false:=by simp[hz]
    have hq:=HLC.out;rw[if_neg (by simpa using hz)] at hq
    cases k with
    |zero=>
     have HQ2:=jq (show res=Za9 (some f.stamp) ((xs.map (·.1)).drop (0+1)) by rw[hq];rfl);clear hq HLC hz;go_upto_region 9 with (fail)
     go_quiet (fail)
     go_wp2_with fail
     go_roundw
     case rel=>exact⟨1,by omega,rfl,rfl,(HB.out.drewN _).bare,by show _=_;rw[HNX.out];exact HQ2.out.symm⟩
     case measure=>simp[intOf];omega
    |succ j=>
     obtain⟨b',off',g,u,hA,hb',hx',_,hr'⟩:=(HS.out.below HB.out.bl).at_ (i:=j) (by omega)
     injection hA with hA;injection hA with hA1 hA2;subst hA1;subst hA2
     have d1:=hr' 1 _ (show(ftA g u)[1]?=some (.int .i64 g.stamp) from rfl);have hpr:ZfL xs (j+1)=some g.stamp:=by show xs[j]?.map (·.1.stamp)=_;rw[hx'];rfl
     rw[hpr] at hq;have i1:(0:Int)<=(j:Int):=by omega
     have i2:(j:Int)<(n:Int):=by omega
     have i3:decide ((0:Int)<(j:Int)+1)=true:=decide_eq_true (by omega);clear hr' hx' hpr HLC hz hb'
     by_cases hs:f.stamp<g.stamp
     ·rw[if_pos (by simpa[Za8] using hs)] at hq;have HQ2:=jq hq;have hd:decide (f.stamp<g.stamp)=true:=decide_eq_true hs;clear hq;go_upto_region 9 with (fail)
      go_quiet (fail)
      go_wp2_with fail
      first|go_ret|skip
      exact⟨Qb HQ2.out.symm,(HB.out.drewN _).bl⟩
     ·rw[if_neg (by simpa[Za8] using hs)] at hq;have HQ2:=jq hq;have hd:decide (f.stamp<g.stamp)=false:=decide_eq_false hs;clear hq;go_upto_region 9 with (fail)
      go_quiet (fail)
      go_wp2_with fail
      go_roundw
      case rel=>exact⟨j+1+1,by omega,rfl,by go_num,(HB.out.drewN _).bare,by show _=_;rw[HNX.out];exact HQ2.out.symm⟩
      case measure=>simp[intOf];omega
   ·have hz0:(z !=0)=true:=by simp[hz]
    have hq:=HLC.out;rw[if_pos hz] at hq;have HQ2:=jq hq;clear hz hq HLC;go_wp2_with fail
    first|go_ret|skip
    exact⟨Qb HQ2.out.symm,HB.out.bl⟩
  ·have HE:=jq (show res=0 by
    have:=HQ.out
    rw[List.drop_eq_nil_of_le (by rw[List.length_map];have:=HNW.out;omega)] at this;exact this.symm)
   go_wp2_with fail
   first|go_ret|skip
   exact⟨Qb HE.out.symm,H.out.bl⟩
end
section
attribute [local go_sem] Oper.semAt_some
def Zks(n:Nat)(xs:List Fx)(e:Ending):Prop:=∃b,e=.returned (.bool b)/\(b=true->n<=12/\(∀x∈xs,GrX x)/\Vq (xs.map (·.1))=0)
theorem Zdm(A:Option Addr)(n c:Nat)(xs:List Fx)(w:World)(hp:Env w)(hs:Sl Qt 21 w w.1.size A n xs)(hi:∀x∈xs,FxI w x)(hn:n<=maxLen):
 Calls Tryz.prog 22 #[.slice A n c] w fun e w'=>Zks n xs e/\Below w.1.size w w':=by
 have hml:maxLen<=9223372036854775807:=by decide
 have H:=jq (Kp.start hp);have HG:=jq (Za7 A n c xs w hp hs (ZeM hi) (by omega));have HF:=jq (fun(hg:∀x∈xs,GrX x) (h:n<=12) W (hb:Below w.1.size w W)=>Zar A n c xs W (hp.here hb) ((Xo hs hi hg).here hb) (by omega));clear hp hs hi hml;go_enter Tryz.func22,Tryz.ntmps22
 go_wp2_with fail
 refine HG.out.mono ?_;rintro e w1 ⟨⟨b,rfl,hP⟩,hb1⟩;have HP:=jq hP;have H1:=jq (H.out.here hb1);clear hP hb1 H HG
 cases b with
 |true=>
  go_wp2_with fail
  first|go_ret|skip
  exact⟨⟨false,rfl,fun h=>by cases h⟩,H1.out.bl⟩
 |false=>
 have HP2:=jq (HP.out rfl)
 by_cases h12:n<=12
 ·have i1:(n:Int)<=12:=by omega
  have HFX:=jq (HF.out HP2.out.2 h12 _ H1.out.bl);have HN:=jq h12;clear HF HP h12;go_wp2_with fail
  refine HFX.out.mono ?_;rintro e w2 ⟨rfl,hb2⟩;have HB:=jq (H1.out.here hb2).bl;have HQ:=jq (show Vq (xs.map (·.1))=0->n<=12/\(∀x∈xs,GrX x)/\Vq (xs.map (·.1))=0 from fun h=>⟨HN.out,HP2.out.2,h⟩);clear hb2 HFX
  by_cases hz:Vq (xs.map (·.1))=0
  ·have HZ:=jq (HQ.out hz);rw[hz];clear hz;go_wp2_with fail
   first|go_ret|skip
   exact⟨⟨true,rfl,fun _=>HZ.out⟩,HB.out⟩
  ·generalize Vq (xs.map (·.1))=z at*;have hz2:(z==0)=false:=by simpa using hz
   clear hz;go_wp2_with fail
   first|go_ret|skip
   exact⟨⟨false,rfl,fun h=>by cases h⟩,HB.out⟩
 ·have i1:¬(n:Int)<=12:=by omega
  clear h12;go_wp2_with fail
  first|go_ret|skip
  exact⟨⟨false,rfl,fun h=>by cases h⟩,H1.out.bl⟩
end
section
attribute [local go_sem] Oper.semAt_some
attribute [local go_sem ↓] Qq QA
theorem Xg(key:List UInt8)(stamp day:Int)(w:World):
 Calls Tryz.prog 42 #[.string ⟨key.toArray⟩,.int .i64 stamp,.int .i64 day] w fun e w'=>e=.returned (.agg (Qa (XW key stamp day) Qg))/\Below w.1.size w w':=by
 have hst:=fun cs (hc:cs.size=21)=>Qj w (XW key stamp day) Qg (cs:=cs) hc
 have HB:=jq ((Below.refl w.1.size w).alloc (Nat.le_refl _) (.cells (Qa (XW key stamp day) Qg) 44));have hld:=Qk (show BlkB (w.alloc (.cells (Qa (XW key stamp day) Qg) 44)) w.1.size _ 44 from heap_alloc_new w _) (Qe _ _);simp only[Qa,XW,Qg] at hst hld;go_enter Tryz.func42,Tryz.ntmps42
 go_wp2_with fail
 refine bodyPost_ret (v:=.agg (Qa (XW key stamp day) Qg)) ((results_cell_row rfl _ _ w.1.size 44 (Qa (XW key stamp day) Qg) (0,0) _ rfl (heap_alloc_new w _) Tryz.underlying44 rfl (by rw[Qe];kernel_rfl)).trans rfl) rfl ?_;exact⟨rfl,HB.out⟩
end
section
attribute [local go_sem] Oper.semAt_some
attribute [local go_sem ↓] Qq QA
def f00:Fct:=⟨[],0,false,0,0,[],[],[],[],[],[],[],⟨[],[]⟩,⟨[],[]⟩,⟨[],[]⟩,[],[],0⟩
theorem Zi9(w:World):(zeroValue 44).run Tryz.prog w=.ok (.agg (Qa f00 Qg)) w:=by
 obtain⟨i,hi,hz⟩:∃i,Tryz.prog.info? 44=some i/\i.zero=some (.agg (Qa f00 Qg)):=by
  have h:(Tryz.prog.info? 44).bind (fun i=>i.zero)=some (.agg (Qa f00 Qg)):=by kernel_rfl
  cases hq:Tryz.prog.info? 44 with
  |none=>rw[hq] at h;cases h
  |some i=>rw[hq] at h;exact⟨i,rfl,h⟩
 simp[zeroValue,typeInfo,hi,hz]
def Zbp(l:List Fx)(k:List UInt8):Option Fx:=l.reverse.find? fun x=>x.1.key==k
def Zep(l:List Fx)(k:List UInt8):Option Value:=(Zbp l k).map fun x=>.agg (Qa x.1 x.2)
theorem ZfS(l:List Fx)(f:Fct)(v:FaV):(fun j=>if j=f.key then some (.agg (Qa f v)) else Zep l j)=Zep (l++[(f,v)]):=by
 funext j
 unfold Zep Zbp;rw[List.reverse_append,List.reverse_singleton,List.singleton_append,List.find?_cons]
 by_cases h:j=f.key
 ·subst h;rw[if_pos rfl];simp
 ·rw[if_neg h];have h2:(f.key==j)=false:=beq_false_of_ne fun e=>h e.symm
  simp[h2]
theorem Zad(l:List Fx)(k:List UInt8):Qd (l.map (·.1)) k=(Zbp l k).map (·.1):=by
 unfold Qd Zbp;rw[<-List.map_reverse,List.find?_map];rfl
theorem ZfT{l:List Fx}{k:List UInt8}{x:Fx}(h:Zbp l k=some x):x∈l:=List.mem_reverse.1 (List.mem_of_find?_eq_some h)
theorem Zbq{xs:List Fx}{k:Nat}{x:Fx}(h:xs[k]?=some x):xs.take (k+1)=xs.take k++[x]:=by rw[List.take_add_one,h];rfl
theorem ZfU(A:Option Addr)(n c:Nat)(xs:List Fx)(w:World)(hp:Env w)(hs:Fxs w w.1.size A n xs)(hn:n<=1000000):
 Calls Tryz.prog 88 #[.slice A n c] w fun e w'=>e=.returned (.map (some w.1.size))/\SmB w' w.1.size n (Zep xs)/\Below w.1.size w w':=by
 have HS:=jq hs;have HNW:=jq hs.len;have H:=jq (Kp.start hp);clear hs hp;have hmm:= @run_makeMap Tryz.prog;have HM:=jq (Zi8 w);have H1:=jq (H.out.alloc (.map #[] 0));clear H;go_enter Tryz.func88,Tryz.ntmps88
 go_wp2_with fail
 generalize hW:w.alloc (.map #[] 0)=W at*;obtain⟨p,hpw⟩:∃p,w.1.size=p:=⟨_,rfl⟩
 rw[hpw] at HM ⊢;have HP:=jq hpw;clear hpw hW
 go_loopw [5,9] (fun _ i wr=>∃(k:Nat),k<=n/\i=.int .i64 k/\Hid (Kp w [] wr)/\Hid (SmB wr p k (Zep (xs.take k)))) (fun _ i _=>n-(intOf i).toNat)
 case atStart=>exact⟨0,Nat.zero_le _,rfl,H1,HM⟩
 case round=>
  clear H1 HM;obtain⟨k,hk,rfl,H,HM⟩:=hrel
  by_cases hlt:k<n
  ·obtain⟨b,off,f,v,rfl,hb,hx,hm,hr⟩:=(HS.out.below H.out.bl).at_ hlt
   have hld:=Qi hr;have hst:=fun cs (hc:cs.size=21)=>Qj wr f v (cs:=cs) hc
   have HX:=jq hx;have HB:=jq (H.out.new wr.1.size rfl (Qa f v) 44);have HM2:=jq (HM.out.alloc (.cells (Qa f v) 44));have HKL:=jq (show f.key.length<=maxLen/\k<maxLen by have:=hm.sz.key;unfold maxLen;simp only at this;omega);clear hx hr hb hm HM;go_upto_region 5 with (fail)
   generalize wr.alloc (.cells (Qa f v) 44)=W1 at*;clear hld hst;generalize hbb:wr.1.size=b1 at*;clear hbb H;have hl1:=Qk (HB.out.at_ 0 rfl) (Qe f v);have c0:=HB.out.c 0 0 rfl (show(Qa f v)[0]?=some (.string ⟨f.key.toArray⟩) from rfl);obtain⟨W3,hput,HM3,hg⟩:=HM2.out.put (t:=116) Tryz.underlying116 HKL.out.2 (k:=f.key) HKL.out.1 (.agg (Qa f v))
   have HK3:=jq (HB.out.bare.turn hg (by have:=HP.out;omega));have HM4:=jq HM3;clear HM3 hg;go_wp2_with fail
   go_roundw
   case rel=>exact⟨k+1,by omega,by go_num,HK3,(show SmB _ _ _ _ by rw[Zbq HX.out,<-ZfS];exact HM4.out)⟩
   case measure=>simp[intOf];omega
  ·obtain rfl:k=n:=by omega
   go_wp2_with fail
   go_ret
   rw[HP.out];refine⟨rfl,?_,by rw[<-HP.out];exact H.out.bl⟩;have h:=HM.out
   rwa [List.take_of_length_le (by have:=HNW.out;omega)] at h
end
end Go.Proofs.YtbcnkcldlealjaaGreatDoor
