/- Lv, Lof, Lg, Sz1, InL, Lco, Li, Lt4, Ws, Eq7, LoS, LoC. -/
import Derived.Test.YtmamnnaiogidaaaGreatDoorQGU29
import Derived.Lib.Overlaps
import Derived.Lib.LazyBuf
import Derived.Laws.Externs
import Derived.Deep.RegionLaw
import Derived.RegionTactic
import Derived.Deep.DeepCutAuto
import Derived.Deep.RegionHeld3
import Derived.Deep.DrawnRows
set_option maxRecDepth 100000
set_option maxHeartbeats 4000000
namespace Go.Proofs.YtmamnnaiogidaaaGreatDoor
open Go.Lib renaming hid→jq
open Go.RowKit Go.Shelf
section
def L7(l:Lot):List Value:=[S l.id,S l.inst,.int .i64 l.acq,.int .i64 l.opn,S l.q,S l.c,S l.u]
def XV(l:Lot):Value:=.agg #[S l.id,S l.inst,.int .i64 l.acq,.int .i64 l.opn,S l.q,S l.c,S l.u]
theorem Ql(l:Lot):(L7 l).length=7:=rfl
theorem Vf(l:Lot):∀u∈L7 l,u.oneCell'=true:=by
 intro u hu;simp only[L7,List.mem_cons,List.mem_nil_iff,or_false] at hu
 rcases hu with rfl|rfl|rfl|rfl|rfl|rfl|rfl<;>rfl
abbrev Xg(w:World)(B:Nat)(A:Option Addr)(n:Nat)(xs:List Lot):Prop:=Sl L7 7 w B A n xs
structure Lot.Sz (L:Nat) (l:Lot):Prop where
 id:l.id.length<=L
 inst:l.inst.length<=L
 q:l.q.length<=L
 c:l.c.length<=L
 u:l.u.length<=L
 a1: -9223372036854775808<=l.acq
 a2:l.acq<=9223372036854775807
 o1: -9223372036854775808<=l.opn
 o2:l.opn<=9223372036854775807
end
section
attribute [local go_sem] Oper.semAt_some
theorem Zh1(A:Option Addr)(n c:Nat)(i:List UInt8)(w:World):
 Calls Tryz.prog 33 #[.slice A n c,S i] w fun e w'=>e=.returned (.func (.func 72) #[] #[.pointer (some ⟨w.1.size,0,none⟩),.pointer (some ⟨w.1.size+1,0,none⟩)])/\w'=(w.alloc (.cells #[.slice A n c] 22)).alloc (.cells #[.string ⟨i.toArray⟩] 9):=by
 unfold S;go_enter Tryz.func33,Tryz.ntmps33
 go_wp2
 go_ret
 exact⟨rfl,rfl⟩
theorem Sl.lot7{w:World}{B:Nat}{A:Option Addr}{n:Nat}{xs:List Lot}{i:Nat}(h:Xg w B A n xs)(hi:i<n):
 ∃b off x,A=some ⟨b,off,none⟩/\b<B/\xs[i]?=some x/\w.cell? ⟨b,off+i*7,none⟩=some (.string ⟨x.id.toArray⟩)/\w.cell? ⟨b,off+i*7+1,none⟩=some (.string ⟨x.inst.toArray⟩)/\w.cell? ⟨b,off+i*7+2,none⟩=some (.int .i64 x.acq)/\
  w.cell? ⟨b,off+i*7+3,none⟩=some (.int .i64 x.opn)/\w.cell? ⟨b,off+i*7+4,none⟩=some (.string ⟨x.q.toArray⟩)/\w.cell? ⟨b,off+i*7+5,none⟩=some (.string ⟨x.c.toArray⟩)/\w.cell? ⟨b,off+i*7+6,none⟩=some (.string ⟨x.u.toArray⟩):=by
 obtain⟨b,off,x,hA,hb,hx,hc⟩:=h.at_ hi
 exact⟨b,off,x,hA,hb,hx,hc 0 _ rfl,hc 1 _ rfl,hc 2 _ rfl,hc 3 _ rfl,hc 4 _ rfl,hc 5 _ rfl,hc 6 _ rfl⟩
def ZnJ(x:Lot):Array Value:=#[.string ⟨x.id.toArray⟩,.string ⟨x.inst.toArray⟩,.int .i64 x.acq,.int .i64 x.opn,.string ⟨x.q.toArray⟩,.string ⟨x.c.toArray⟩,.string ⟨x.u.toArray⟩]
theorem ZfM{xs:List Lot}{i:List UInt8}{k:Nat}{x:Lot}(h:xs[k]?=some x):Qb (xs.take (k+1)) i=Qb (xs.take k) i++if(x.inst==i)=true then[x] else[]:=by
 obtain⟨hk,rfl⟩:=List.getElem?_eq_some_iff.1 h
 rw[List.take_succ_eq_append_getElem hk];unfold Qb;rw[List.filter_append]
 congr 1
 by_cases e:(xs[k].inst==i)=true
 ·rw[if_pos e];simp[List.filter,e]
 ·rw[if_neg e];simp only[Bool.not_eq_true] at e;simp[List.filter,e]
theorem ZgU(xs:List Lot)(i:List UInt8)(k:Nat):Qb (xs.take k) i <+: Qb xs i:=by
 refine⟨Qb (xs.drop k) i,?_⟩;unfold Qb;rw[<-List.filter_append,List.take_append_drop]
theorem Zeh(F:Fence)(n:Nat)(hF:F.fn 72)(hro:F.round=none)(hn:1<=n)(St:Nat->Prop)(Bs Bi n₀:Nat)(A:Option Addr)(len cap:Nat)(xs:List Lot)(i:List UInt8)(w:World)
 (hBs:Box w Bs 22 (.slice A len cap)) (hBi:Box w Bi 9 (.string ⟨i.toArray⟩)) (hn₀:n₀<=w.1.size) (hs:Xg w n₀ A len xs) (hl:len<=1000000) (hS:∀b,b<n₀->St b) (hSi:St Bi):
 SeqStopsK F n Tryz.prog 72 #[.pointer (some ⟨Bs,0,none⟩),.pointer (some ⟨Bi,0,none⟩)] (fun z:{z:Lot//z∈Qb xs i}=>#[XV z.1]) (KeepS St) (fun ys=>ys.map (·.1)=Qb xs i) (fun pre=>pre.map (·.1) <+: Qb xs i) (Qb xs i).length w:=fun l J Jx W hW hJ hJx hY h0=>by
 have bs:=hBs.here hW;have HBI:=jq (hBi.here hW);have HS:=jq (hs.below (hW.mono hn₀));have hsz:=hW.size;have cs:=bs.cell;have HJ:=jq hJ;have HY:=jq hY;have H0:=jq h0;have HST:=jq hS;have HSI:=jq hSi;have HN0:=jq (show n₀<=W.1.size by omega);have HLE:=jq hs.1;clear hBs hBi hs hW hJ hJx hY h0 hn₀ hS hSi hsz bs;refine callsIn_of_wp Tryz.func72 rfl hF ?_ hro;simp only[Tryz.ntmps72,List.size_toArray,List.length_cons,List.length_nil,Nat.reduceAdd,Nat.reduceSub,Array.replicate_succ,Array.replicate_zero,List.push_toArray,List.append_toArray,List.nil_append,List.cons_append]
 gi_wp2
 gi_loopw [8] (fun j wr=>∃(k:Nat) (pre:List {z:Lot//z∈Qb xs i}),k<=len/\j=.int .i64 k/\Hid (pre.map (·.1)=Qb (xs.take k) i)/\Hid (J pre wr)/\Hid (Xg wr n₀ A len xs)/\Hid (Box wr Bi 9 (.string ⟨i.toArray⟩))/\Hid (W.1.size<=wr.1.size)) (fun j _=>len-(intOf j).toNat)
 case atStart=>exact⟨0,[],Nat.zero_le _,rfl,(show _=_ by simp[Qb]),H0,HS,HBI,Nat.le_refl _⟩
 case round=>
  clear HS HBI H0;obtain⟨k,pre,hk,rfl,HP,HJS,HS,HBI,HSZ⟩:=hrel
  by_cases hlt:k<len
  ·obtain⟨b,off,x,rfl,hb,hx,d0,d1,d2,d3,d4,d5,d6⟩:=HS.out.lot7 hlt
   have HX:=jq hx;have HT:=jq (ZfM (i:=i) hx);have HPR:=jq (ZgU xs i (k+1));clear hx;have HG:=jq (World.grownBy_alloc wr (.cells #[.string ⟨x.id.toArray⟩,.string ⟨x.inst.toArray⟩,.int .i64 x.acq,.int .i64 x.opn,.string ⟨x.q.toArray⟩,.string ⟨x.c.toArray⟩,.string ⟨x.u.toArray⟩] 50) none);have HJ1:=jq (HJ.out pre wr _ none HJS.out HG.out (fun r e=>by cases e));have bi:=HBI.out.cell;have hbl:Bi<wr.1.size:=HBI.out.lt;have hbn:Bi≠wr.1.size:=by omega
   have HBA:=jq (HBI.out.alloc (.cells #[.string ⟨x.id.toArray⟩,.string ⟨x.inst.toArray⟩,.int .i64 x.acq,.int .i64 x.opn,.string ⟨x.q.toArray⟩,.string ⟨x.c.toArray⟩,.string ⟨x.u.toArray⟩] 50));have HSA:=jq (HS.out.alloc (by have:=HSZ.out;have:=HN0.out;omega) (.cells #[.string ⟨x.id.toArray⟩,.string ⟨x.inst.toArray⟩,.int .i64 x.acq,.int .i64 x.opn,.string ⟨x.q.toArray⟩,.string ⟨x.c.toArray⟩,.string ⟨x.u.toArray⟩] 50))
   by_cases hq:(x.inst==i)=true
   ·have hmem:x∈Qb xs i:=List.mem_filter.2 ⟨List.mem_of_getElem? HX.out,hq⟩;have HT2:=jq (show Qb (xs.take (k+1)) i=Qb (xs.take k) i++[x] by rw[HT.out,if_pos hq])
    obtain⟨fn,tmps,assign,body,hy,hR⟩:=HY.out pre ⟨x,hmem⟩ _ HJ1.out (by
     have h1:=HPR.out.length_le;rw[HT2.out,<-HP.out] at h1;simp at h1;omega)
    dsimp only[XV,S] at hy
    have HR:=jq hR;have HM:=jq hmem;clear hR
    gi_wp2
    refine HR.out.mono ?_;rintro e W3 (⟨rfl,hJ3,hk3⟩|⟨rfl,hJx3⟩)
    ·have HJ3:=jq hJ3;have HK3:=jq hk3;clear hJ3 hk3
     gi_wp2
     go_roundw
     case rel=>
      exact⟨k+1,pre++[⟨x,hmem⟩],by omega,by go_num,(show _=_ by rw[HT2.out,List.map_append,HP.out];rfl),HJ3,HK3.out.sl HSA.out (fun b hb=>⟨HST.out b hb,by have:=HSZ.out;have:=HN0.out;simp;omega⟩),HK3.out.box HBA.out HSI.out,(by have:=HK3.out.1;have:=HSZ.out;simp at *; show _<=_;omega)⟩
     case measure=>simp[intOf];omega
    ·have HJ3:=jq hJx3;clear hJx3
     gi_wp2
     refine bodyPost_ret (results_none rfl _ _ _) rfl ?_;exact⟨⟨_,rfl⟩,.inr ⟨pre++[⟨x,hmem⟩],by rw[List.map_append,HP.out];show _++[x] <+: _;rw[<-HT2.out];exact HPR.out,HJ3.out⟩⟩
   ·have hq':(x.inst==i)=false:=by simpa using hq
    have HT2:=jq (show Qb (xs.take (k+1)) i=Qb (xs.take k) i by rw[HT.out,if_neg hq,List.append_nil]);clear hq
    gi_wp2
    refine⟨fun _ h=>(by cases h),?_⟩
    gi_wp2
    go_roundw
    case rel=>exact⟨k+1,pre,by omega,by go_num,(show _=_ by rw[HT2.out];exact HP.out),HJ1,HSA,HBA,(by have:=HSZ.out;show _<=_;simp;omega)⟩
    case measure=>simp[intOf];omega
  ·obtain rfl:k=len:=by omega
   gi_wp2
   go_end0
   exact⟨⟨_,rfl⟩,.inl ⟨pre,by rw[HP.out,List.take_of_length_le (by rw[HLE.out];exact Nat.le_refl _)],HJS.out⟩⟩
end
section
def Jw(x:Lot):Bool:=decide (13<x.q.length)||decide (13<x.c.length)||decide (13<x.u.length)||decide (40<x.id.length)||decide (40<x.inst.length)
def VD(xs:List Lot):Bool:=(decide (12<xs.length)&&decide (xs.length<999))||decide (1002<xs.length)||xs.any Jw
structure Lot.Max (x:Lot):Prop where
 id:x.id.length<=maxLen
 inst:x.inst.length<=maxLen
 q:x.q.length<=maxLen
 c:x.c.length<=maxLen
 u:x.u.length<=maxLen
theorem Yx(a:List UInt8)(w:World):Calls Tryz.prog 52 #[S a] w fun e w'=>e=.returned (.bool (decide (13<a.length)))/\w=w':=by
 unfold S;go_enter Tryz.func52,Tryz.ntmps52
 go_wp2_with fail
 go_ret
 refine⟨Qi ?_,rfl⟩;rw[Bool.eq_iff_iff];simp
 omega
theorem ZaZ(x:Lot)(w:World):Calls Tryz.prog 51 #[XV x] w fun e w'=>e=.returned (.bool (Jw x))/\Below w.1.size w w':=by
 have HB:=jq ((Below.refl w.1.size w).alloc (Nat.le_refl _) (.cells #[.string ⟨x.id.toArray⟩,.string ⟨x.inst.toArray⟩,.int .i64 x.acq,.int .i64 x.opn,.string ⟨x.q.toArray⟩,.string ⟨x.c.toArray⟩,.string ⟨x.u.toArray⟩] 50));have HQ:=jq (fun W=>Yx x.q W);have HC:=jq (fun W=>Yx x.c W);have HU:=jq (fun W=>Yx x.u W);have HG:=jq (show Jw x=(decide (13<x.q.length)||decide (13<x.c.length)||decide (13<x.u.length)||decide (40<x.id.length)||decide (40<x.inst.length)) from rfl);generalize Jw x=gr at*;unfold XV S;unfold S at*
 by_cases h1:13<x.q.length
 ·rw[decide_eq_true h1] at HQ HG;go_enter Tryz.func51,Tryz.ntmps51
  go_wp2_with fail
  refine(HQ.out _).mono ?_;rintro e w1 ⟨rfl,rfl⟩;go_wp2_with fail
  go_ret
  exact⟨Qi (by rw[HG.out];simp),HB.out⟩
 ·rw[decide_eq_false h1] at HQ HG
  by_cases h2:13<x.c.length
  ·rw[decide_eq_true h2] at HC HG;go_enter Tryz.func51,Tryz.ntmps51
   go_wp2_with fail
   refine(HQ.out _).mono ?_;rintro e w1 ⟨rfl,rfl⟩;go_wp2_with fail
   refine(HC.out _).mono ?_;rintro e w1 ⟨rfl,rfl⟩;go_wp2_with fail
   go_ret
   exact⟨Qi (by rw[HG.out];simp),HB.out⟩
  ·rw[decide_eq_false h2] at HC HG
   by_cases h3:13<x.u.length
   ·rw[decide_eq_true h3] at HU HG;go_enter Tryz.func51,Tryz.ntmps51
    go_wp2_with fail
    refine(HQ.out _).mono ?_;rintro e w1 ⟨rfl,rfl⟩;go_wp2_with fail
    refine(HC.out _).mono ?_;rintro e w1 ⟨rfl,rfl⟩;go_wp2_with fail
    refine(HU.out _).mono ?_;rintro e w1 ⟨rfl,rfl⟩;go_wp2_with fail
    go_ret
    exact⟨Qi (by rw[HG.out];simp),HB.out⟩
   ·rw[decide_eq_false h3] at HU HG;clear h1 h2 h3
    by_cases h4:40<x.id.length
    ·rw[decide_eq_true h4] at HG;have h4':(40:Int)<(x.id.length:Int):=by omega
     clear h4;go_enter Tryz.func51,Tryz.ntmps51
     go_wp2_with fail
     refine(HQ.out _).mono ?_;rintro e w1 ⟨rfl,rfl⟩;go_wp2_with fail
     refine(HC.out _).mono ?_;rintro e w1 ⟨rfl,rfl⟩;go_wp2_with fail
     refine(HU.out _).mono ?_;rintro e w1 ⟨rfl,rfl⟩;go_wp2_with fail
     go_ret
     exact⟨Qi (by rw[HG.out];simp),HB.out⟩
    ·rw[decide_eq_false h4] at HG;have h4':¬(40:Int)<(x.id.length:Int):=by omega
     clear h4
     by_cases h5:40<x.inst.length
     ·rw[decide_eq_true h5] at HG;have h5':(40:Int)<(x.inst.length:Int):=by omega
      clear h5;go_enter Tryz.func51,Tryz.ntmps51
      go_wp2_with fail
      refine(HQ.out _).mono ?_;rintro e w1 ⟨rfl,rfl⟩;go_wp2_with fail
      refine(HC.out _).mono ?_;rintro e w1 ⟨rfl,rfl⟩;go_wp2_with fail
      refine(HU.out _).mono ?_;rintro e w1 ⟨rfl,rfl⟩;go_wp2_with fail
      go_ret
      exact⟨Qi (by rw[HG.out];simp),HB.out⟩
     ·rw[decide_eq_false h5] at HG;have h5':¬(40:Int)<(x.inst.length:Int):=by omega
      clear h5;go_enter Tryz.func51,Tryz.ntmps51
      go_wp2_with fail
      refine(HQ.out _).mono ?_;rintro e w1 ⟨rfl,rfl⟩;go_wp2_with fail
      refine(HC.out _).mono ?_;rintro e w1 ⟨rfl,rfl⟩;go_wp2_with fail
      refine(HU.out _).mono ?_;rintro e w1 ⟨rfl,rfl⟩;go_wp2_with fail
      go_ret
      exact⟨Qi (by rw[HG.out];simp;omega),HB.out⟩
theorem ZfN{p:Lot->Bool}{xs:List Lot}{k:Nat}{x:Lot}(h:xs[k]?=some x):(xs.take (k+1)).any p=((xs.take k).any p||p x):=by
 obtain⟨hk,rfl⟩:=List.getElem?_eq_some_iff.1 h
 rw[List.take_succ_eq_append_getElem hk,List.any_append];simp
theorem ZgV(A:Option Addr)(n c:Nat)(xs:List Lot)(w:World)(hs:Xg w w.1.size A n xs)(hn:n<=9223372036854775807):Calls Tryz.prog 22 #[.slice A n c] w fun e w'=>e=.returned (.bool (VD xs))/\Below w.1.size w w':=by
 have HS:=jq hs;have hnx:=hs.1;have HG:=jq (show VD xs=((decide (12<n)&&decide (n<999))||decide (1002<n)||xs.any Jw) by rw[hnx];rfl);have HNX:=jq hnx;generalize VD xs=gr at*;clear hs hnx
 by_cases h1:12<n
 ·by_cases h2:n<999
  ·rw[decide_eq_true h1,decide_eq_true h2] at HG;have a1:(12:Int)<(n:Int):=by omega
   have a2:(n:Int)<999:=by omega
   clear h1 h2;go_enter Tryz.func22,Tryz.ntmps22
   go_wp2_with fail
   go_ret
   exact⟨Qi (by rw[HG.out];simp),Below.refl _ _⟩
  ·rw[decide_eq_true h1,decide_eq_false h2] at HG
   by_cases h3:1002<n
   ·rw[decide_eq_true h3] at HG;have a1:(12:Int)<(n:Int):=by omega
    have a2:¬(n:Int)<999:=by omega
    have a3:(1002:Int)<(n:Int):=by omega
    clear h1 h2 h3;go_enter Tryz.func22,Tryz.ntmps22
    go_wp2_with fail
    go_ret
    exact⟨Qi (by rw[HG.out];simp),Below.refl _ _⟩
   ·rw[decide_eq_false h3] at HG;have a1:(12:Int)<(n:Int):=by omega
    have a2:¬(n:Int)<999:=by omega
    have a3:¬(1002:Int)<(n:Int):=by omega
    clear h1 h2 h3;go_enter Tryz.func22,Tryz.ntmps22
    go_wp2_with fail
    go_loopw [3] (fun i wr=>∃k:Nat,k<=n/\i=.int .i64 k/\Hid ((xs.take k).any Jw=false)/\Hid (Below w.1.size w wr)) (fun i _=>n-(intOf i).toNat)
    case atStart=>exact⟨0,Nat.zero_le _,rfl,(show _=_ by simp),Below.refl _ _⟩
    case round=>
     obtain⟨k,hk,rfl,HAN,HBR⟩:=hrel
     by_cases hlt:k<n
     ·obtain⟨b,off,x,rfl,hb,hx,d0,d1,d2,d3,d4,d5,d6⟩:=(HS.out.here HBR.out).lot7 hlt
      have HAT:=jq (ZfN (p:=Jw) hx);have HMX:=jq (List.mem_of_getElem? hx);clear hx;have HGO:=jq (ZaZ x wr);have HGX:=jq (show Jw x=true->xs.any Jw=true from fun h=>List.any_eq_true.2 ⟨x,HMX.out,h⟩);generalize Jw x=gx at*;unfold XV S at HGO
      cases gx with
      |true=>
       go_wp2_with fail
       refine HGO.out.mono ?_;rintro e w1 ⟨rfl,hb1⟩;go_wp2_with fail
       go_ret
       exact⟨Qi (by have hg:=HGX.out;simp only[forall_const] at hg;rw[HG.out,hg];simp),HBR.out.trans (hb1.mono HBR.out.size)⟩
      |false=>
       go_wp2_with fail
       refine HGO.out.mono ?_;rintro e w1 ⟨rfl,hb1⟩;go_wp2_with fail
       go_roundw
       case rel=>exact⟨k+1,by omega,by go_num,(show _=_ by rw[HAT.out,HAN.out];rfl),HBR.out.trans (hb1.mono HBR.out.size)⟩
       case measure=>simp[intOf];omega
     ·have HTK:=jq (show xs.any Jw=false by have:=HAN.out;rwa [List.take_of_length_le (by have:=HNX.out;omega)] at this);go_wp2_with fail
      go_ret
      exact⟨Qi (by rw[HG.out,HTK.out];simp),HBR.out⟩
 ·rw[decide_eq_false h1] at HG;have h3:¬1002<n:=by omega
  rw[decide_eq_false h3] at HG;have a1:¬(12:Int)<(n:Int):=by omega
  have a3:¬(1002:Int)<(n:Int):=by omega
  clear h1 h3;go_enter Tryz.func22,Tryz.ntmps22
  go_wp2_with fail
  go_loopw [3] (fun i wr=>∃k:Nat,k<=n/\i=.int .i64 k/\Hid ((xs.take k).any Jw=false)/\Hid (Below w.1.size w wr)) (fun i _=>n-(intOf i).toNat)
  case atStart=>exact⟨0,Nat.zero_le _,rfl,(show _=_ by simp),Below.refl _ _⟩
  case round=>
   obtain⟨k,hk,rfl,HAN,HBR⟩:=hrel
   by_cases hlt:k<n
   ·obtain⟨b,off,x,rfl,hb,hx,d0,d1,d2,d3,d4,d5,d6⟩:=(HS.out.here HBR.out).lot7 hlt
    have HAT:=jq (ZfN (p:=Jw) hx);have HMX:=jq (List.mem_of_getElem? hx);clear hx;have HGO:=jq (ZaZ x wr);have HGX:=jq (show Jw x=true->xs.any Jw=true from fun h=>List.any_eq_true.2 ⟨x,HMX.out,h⟩);generalize Jw x=gx at*;unfold XV S at HGO
    cases gx with
    |true=>
     go_wp2_with fail
     refine HGO.out.mono ?_;rintro e w1 ⟨rfl,hb1⟩;go_wp2_with fail
     go_ret
     exact⟨Qi (by have hg:=HGX.out;simp only[forall_const] at hg;rw[HG.out,hg];simp),HBR.out.trans (hb1.mono HBR.out.size)⟩
    |false=>
     go_wp2_with fail
     refine HGO.out.mono ?_;rintro e w1 ⟨rfl,hb1⟩;go_wp2_with fail
     go_roundw
     case rel=>exact⟨k+1,by omega,by go_num,(show _=_ by rw[HAT.out,HAN.out];rfl),HBR.out.trans (hb1.mono HBR.out.size)⟩
     case measure=>simp[intOf];omega
   ·have HTK:=jq (show xs.any Jw=false by have:=HAN.out;rwa [List.take_of_length_le (by have:=HNX.out;omega)] at this);go_wp2_with fail
    go_ret
    exact⟨Qi (by rw[HG.out,HTK.out];simp),HBR.out⟩
end
section
def Lot.I(y:Lot):Prop:=(-9223372036854775808<=y.acq/\y.acq<=9223372036854775807)/\ -9223372036854775808<=y.opn/\y.opn<=9223372036854775807
theorem YH{xs:List Lot}(h:VD xs=false)(hi:∀y∈xs,y.I):xs.length<=1002/\∀y∈xs,y.Sz 40/\y.q.length<=13/\y.c.length<=13:=by
 unfold VD at h;simp only[Bool.or_eq_false_iff,decide_eq_false_iff_not] at h;refine⟨by omega,fun y hy=> ?_⟩
 have h1:Jw y=false:=by
  have:=h.2
  rw[List.any_eq_false] at this;simpa using this y hy
 unfold Jw at h1;simp only[Bool.or_eq_false_iff,decide_eq_false_iff_not] at h1;obtain⟨⟨a1,a2⟩,b1,b2⟩:=hi y hy
 obtain⟨⟨⟨⟨c1,c2⟩,c3⟩,c4⟩,c5⟩:=h1
 exact⟨⟨by omega,by omega,by omega,by omega,by omega,a1,a2,b1,b2⟩,by omega,by omega⟩
end
section
theorem Jm:JO Tryz.prog 22 50 7 96:=Jd Tryz.underlying22 (by kernel_rfl) (by decide) (by decide)
theorem Zgr(a:Addr)(n c:Nat)(xs:List Lot)(w:World)(hr:Xg w w.1.size (some a) n xs)(hn:n<=1000000):
 Calls Tryz.prog 64 #[.slice (some a) n c] w (RetOwn L7 7 50 w.1.size w xs):=by
 have HR:=jq (hr.alloc (Nat.le_refl _) (.cells #[] 50));clear hr;have hnil:(binOp .eql 22 (.slice (some a) n c) (.slice none 0 0)).run Tryz.prog w=.ok (.bool false) w:=run_eql_slice_nil w 22 50 _ n c Tryz.underlying22;go_enter Tryz.func64,Tryz.ntmps64
 go_wp2_with (at_builtin;refine Xl _ rfl (.tmp 5) (.tmp 6) _ rfl Jm Ql Vf (base:=w.1.size) (.slice (some ⟨w.1.size,0,none⟩) 0 0) [] rfl (Own.lit w #[] 50 [] rfl Ql (Nat.le_refl _) (by simp)) _ _ n c xs rfl HR.out (by simp;omega) (by simp) ?_
              intro A3 c3 w3 ho3 hg3 _;rw[List.length_nil,Nat.zero_add] at ho3 ⊢;rw[List.nil_append] at ho3;have hb3:Below w.1.size w w3:=Qu ((Below.refl _ _).alloc (Nat.le_refl _) _) hg3 (by simp) (fun g e=>by simp[Value.ownBlock] at e;omega);have HO3:=jq ho3;clear ho3 hg3)
 go_ret
 exact RetOwn.mk rfl HO3.out hb3
theorem Zgs(w:World):Calls Tryz.prog 64 #[.slice none 0 0] w (RetOwn L7 7 50 w.1.size w ([]:List Lot)):=by
 have hnil:(binOp .eql 22 (.slice none 0 0) (.slice none 0 0)).run Tryz.prog w=.ok (.bool true) w:=run_eql_slice_nil w 22 50 _ 0 0 Tryz.underlying22;go_enter Tryz.func64,Tryz.ntmps64
 go_wp2
 go_ret
 exact RetOwn.mk rfl Own.nil (Below.refl _ _)
def VZ(base:Nat)(w:World)(n:Nat)(xs:List Lot)(e:Ending)(w':World):Prop:=
 ∃A c,e=.returned (.slice A n c)/\Own L7 7 50 w' base (.slice A n c) xs/\Below base w w'
theorem ZmO(A:Option Addr)(n c vb base:Nat)(xs:List Lot)(x:Lot)(w:World)(ho:Own L7 7 50 w base (.slice A n c) xs)(hv:Xg w w.1.size (some ⟨vb,0,none⟩) 1 [x])(hn:n<=1000000)(hbs:base<=w.1.size):
 Calls Tryz.prog 111 #[.slice A n c,.int .i64 n,.slice (some ⟨vb,0,none⟩) 1 1] w (VZ base w (n+1) (xs++[x])):=by
 obtain⟨hnx,hxc,hcm,hA⟩:=ho.facts
 have HO:=jq ho;have HV:=jq hv;have hc63:c<=9223372036854775807:=by unfold maxLen at hcm;omega
 have hnc:n<=c:=by omega
 have HRI:=jq (show ∀e w',VZ base w (n+1) (xs++[x]) e w'=∃A c,e=.returned (.slice A (n+1) c)/\Own L7 7 50 w' base (.slice A (n+1) c) (xs++[x])/\Below base w w' from fun _ _=>rfl);generalize VZ base w (n+1) (xs++[x])=post at*;have HA:=jq hA;have HN:=jq hnx;clear ho hv hcm hxc hA hnx;go_enter Tryz.func111,Tryz.ntmps111
 go_wp2_with (at_builtin;refine Xl _ rfl (.tmp 23) (.tmp 24) _ rfl Jm Ql Vf (base:=base) (.slice A n c) xs rfl HO.out _ _ 1 1 [x] rfl HV.out (by rw[<-HN.out];omega) hbs ?_
              intro A3 c3 w3 ho3 hg3 _;rw[<-HN.out] at ho3 ⊢;have HO3:=jq ho3;have HG3:=jq hg3;clear ho3 hg3)
 all_goals
  first|go_ret|skip
  rw[HRI.out];refine⟨A3,c3,rfl,HO3.out,Qu (Below.refl _ _) HG3.out hbs (fun g e=> ?_)⟩
  rcases HA.out with ⟨rfl,_⟩|⟨g',rfl,hg1,_⟩
  ·simp[Value.ownBlock] at e
  ·simp[Value.ownBlock] at e;omega
def XU(x:Lot):Array Value:=#[.string ⟨x.id.toArray⟩,.string ⟨x.inst.toArray⟩,.int .i64 x.acq,.int .i64 x.opn,.string ⟨x.q.toArray⟩,.string ⟨x.c.toArray⟩,.string ⟨x.u.toArray⟩]
theorem Zap(x:Lot):(L7 x).toArray=XU x:=rfl
theorem Zlf(w:World)(vb g off lb cb:Nat)(x:Lot)(cur:Array Value)(hv:BlkB w vb (XU x) 50)(hg:BlkB w g cur 50)(hc:cur.size≠0)(hne:vb≠g):
 (callFunc 151 #[.slice (some ⟨vb,0,none⟩) 1 1,.slice (some ⟨g,off,none⟩) lb cb]).run Tryz.prog w=.ok (.value (.bool false)) w:=by
 have hsa:w.shape? vb=some (50,7):=by unfold BlkB at hv;simp[World.shape?,hv,XU]
 have hsb:w.shape? g=some (50,cur.size):=by unfold BlkB at hg;simp[World.shape?,hg]
 rw[run_callFunc_extern Tryz.func151 (by kernel_rfl) (by kernel_rfl) (by kernel_rfl) (e:=Extern.SlicesOverlaps.overlaps #[22,22] #[4]) (by kernel_rfl),
  Lib.run_overlaps_apart w 22 4 50 Tryz.underlying22 7 Tryz.sizeOf50 ⟨vb,0,none⟩ ⟨g,off,none⟩ 1 1 lb cb hne 50 50 7 cur.size hsa hsb hc (hv.frozen 0) (hv.frozen 7)]
 rfl
theorem Zlg(g n c i vb base:Nat)(xs:List Lot)(x:Lot)(w:World)(ho:Own L7 7 50 w base (.slice (some ⟨g,0,none⟩) n c) xs)(hv:BlkB w vb (XU x) 50)(hne:vb≠g)(hi:i<n)(hroom:n+1<=c)(hn:n<=1000000)(_hbs:base<=w.1.size):
 Calls Tryz.prog 111 #[.slice (some ⟨g,0,none⟩) n c,.int .i64 i,.slice (some ⟨vb,0,none⟩) 1 1] w (VZ base w (n+1) (xs.take i++x::xs.drop i)):=by
 obtain⟨hnx,hxc,hcm,hA⟩:=ho.facts
 have ho2:=ho.2
 rcases ho2 with ⟨hv0,_⟩|⟨g',cap',cur,hv1,hbg,hg,hnc,_,hcs,htk⟩
 ·cases hv0
 injection hv1 with a1 a2 a3;injection a1 with a1;injection a1 with a1 _;subst a1;subst a3
 subst hnx;have hsz:(Tryz.prog.info? 50).map (·.size)=some 7:=by kernel_rfl
 have hgB:BlkB w g cur 50:=hg;have hg1:w.drew.heap[g]?=some (.cells cur.toList.toArray 50 (0,0)):=by rw[Array.toArray_toList];exact hg
 have hfl:(xs.flatMap L7).length=xs.length*7:=Qx Ql xs;have hcl:cur.toList.length=c*7:=by simpa using hcs
 have hcells:∀(j:Nat) (v:Value),(xs.flatMap L7)[j]?=some v->cur[j]?=some v:=by
  intro j v hj;rw[<-htk,List.getElem?_take] at hj
  split at hj
  ·simpa using hj
  ·cases hj
 have hcp1:∀ty dc sc,(Builtin.copy_ #[22,22] ty #[.slice (some ⟨g,(i+1)*7,none⟩) (xs.length-i) dc,.slice (some ⟨g,i*7,none⟩) (xs.length+1-i) sc]).run Tryz.prog w.drew=.ok (goInt (xs.length-i:Nat)) (w.drew.setRow g (splice cur.toList ((i+1)*7) ((xs.drop i).flatMap L7)).toArray):=fun ty dc sc=>
  JL w.drew _ _ ty 50 7 g ((i+1)*7) _ dc ⟨g,i*7,none⟩ _ sc (xs.length-i) cur.toList 50 ((xs.drop i).flatMap L7) Tryz.underlying22 hsz hg1 (by simp only[Nat.min_def];split<;>omega) (by rw[Qx Ql,List.length_drop])
   (fun j v hj=>by
     rw[Addr.add_lit]
     show w.cell? ⟨g,i*7+j,none⟩=some v
     exact hgB.cell (i*7+j) (hcells (i*7+j) v (by
      have e:(xs.flatMap L7).drop (i*7)=(xs.drop i).flatMap L7:=by
       conv=>lhs;rw[<-List.take_append_drop i xs,List.flatMap_append]
       rw[List.drop_append_of_le_length (by rw[Qx Ql,List.length_take];omega),List.drop_eq_nil_of_le (by rw[Qx Ql,List.length_take];omega),List.nil_append]
      rw[<-e,List.getElem?_drop] at hj;exact hj)))
   (by rw[Qx Ql,List.length_drop,hcl];omega) (fun v hv=>by
     obtain⟨y,_,hy⟩:=List.mem_flatMap.1 hv
     exact Vf y v hy)
 obtain⟨Z1,hZ1⟩:∃Z1,Z1=splice cur.toList ((i+1)*7) ((xs.drop i).flatMap L7):=⟨_,rfl⟩
 have hz1l:Z1.length=c*7:=by rw[hZ1,length_splice _ _ _ (by rw[Qx Ql,List.length_drop,hcl];omega),hcl]
 rw[<-hZ1] at hcp1;obtain⟨W1,hW1⟩:∃W1,W1=w.drew.setRow g Z1.toArray:=⟨_,rfl⟩
 rw[<-hW1] at hcp1;have hg2:W1.heap[g]?=some (.cells Z1.toArray 50 (0,0)):=by rw[hW1];exact setRow_heap _ _ _ _ _ _ hg1
 have hv2:BlkB W1 vb (XU x) 50:=by rw[hW1];exact(setRow_other _ _ _ _ hne).trans hv
 have hcp2:∀ty dc,(Builtin.copy_ #[22,22] ty #[.slice (some ⟨g,i*7,none⟩) (xs.length+1-i) dc,.slice (some ⟨vb,0,none⟩) 1 1]).run Tryz.prog W1=.ok (goInt 1) (W1.setRow g (splice Z1 (i*7) (L7 x)).toArray):=fun ty dc=>
  JL W1 _ _ ty 50 7 g (i*7) _ dc ⟨vb,0,none⟩ 1 1 1 Z1 50 (L7 x) Tryz.underlying22 hsz hg2 (by simp only[Nat.min_def];split<;>omega) rfl
   (fun j v hj=>by
     rw[Addr.add_lit,Nat.zero_add];exact hv2.cell j (by rw[<-Zap];simpa using hj))
   (by rw[hz1l,Ql];omega) (Vf x)
 have HOV:=jq (fun off lb cb=>Zlf w vb g off lb cb x cur hv hgB (by omega) hne);have HC1:=jq hcp1;have HC2:=jq hcp2;have hc63:c<=9223372036854775807:=by unfold maxLen at hcm;omega
 have HRI:=jq (show VZ base w (xs.length+1) (xs.take i++x::xs.drop i)=fun e w'=>∃A c,e=.returned (.slice A (xs.length+1) c)/\Own L7 7 50 w' base (.slice A (xs.length+1) c) (xs.take i++x::xs.drop i)/\Below base w w' from rfl)
 have HEND:=jq (show Own L7 7 50 (W1.setRow g (splice Z1 (i*7) (L7 x)).toArray) base (.slice (some ⟨g,0,none⟩) (xs.length+1) c) (xs.take i++x::xs.drop i)/\Below base w (W1.setRow g (splice Z1 (i*7) (L7 x)).toArray) by
  have hln:(xs.take i++x::xs.drop i).length=xs.length+1:=by rw[List.length_append,List.length_cons,List.length_take,List.length_drop];omega
  have hd7:((xs.drop i).flatMap L7).length=(xs.length-i)*7:=by rw[Qx Ql,List.length_drop]
  refine⟨⟨Qx Ql _,.inr ⟨g,c,(splice Z1 (i*7) (L7 x)).toArray,by rw[hln],hbg,setRow_heap _ _ _ _ _ _ hg2,by rw[hln];exact hroom,hcm,by simp[];rw[length_splice _ _ _ (by rw[hz1l,Ql];omega),hz1l],?_⟩⟩,?_⟩
  ·rw[hln]
   show(splice Z1 (i*7) (L7 x)).take _=_
   refine Zik Ql cur.toList xs x i (by omega) (by rw[hcl];omega) (fun j hj=> ?_) _ (by rw[length_splice _ _ _ (by rw[hz1l,Ql];omega),hz1l,hcl]) (fun j=> ?_)
   ·rw[<-htk,List.getElem?_take_of_lt (by omega)]
   ·rw[YF _ _ _ (by rw[hz1l,Ql];omega),Ql]
    by_cases h1:j<i*7
    ·rw[if_pos h1,if_pos h1,hZ1,YF _ _ _ (by rw[hd7,hcl];omega),if_pos (by omega)]
    ·rw[if_neg h1,if_neg h1]
     by_cases h2:j<i*7+7
     ·rw[if_pos h2,if_pos (by omega)]
     ·rw[if_neg h2,if_neg (by omega),hZ1,YF _ _ _ (by rw[hd7,hcl];omega),if_neg (by omega),hd7]
      by_cases h3:j<(i+1)*7+(xs.length-i)*7
      ·rw[if_pos h3,if_pos (by omega)]
      ·rw[if_neg h3,if_neg (by omega)]
  ·rw[hW1];exact below_setRow (below_setRow (Below.refl _ w).drew hbg _) hbg _)
 generalize VZ base w (xs.length+1) (xs.take i++x::xs.drop i)=post at*;generalize W1.setRow g (splice Z1 (i*7) (L7 x)).toArray=W2 at*;obtain⟨n,hn'⟩:∃n,n=xs.length:=⟨_,rfl⟩
 rw[<-hn'] at HC1 HC2 HRI HEND hi hroom hn ⊢;have hw1:IntKind.i64.wrap ((i:Int)+1)=(i:Int)+1:=by rw[IntKind.wrap_i64];omega
 have hb1:(0:Int)<=(i:Int)+1:=by omega
 have htn:((i:Int)+1).toNat=i+1:=by omega
 have hb2:¬(c=i+1):=by omega
 have hb3:(i:Int)<=(n:Int)+1:=by omega
 have hb4:¬(c=i):=by omega
 have hin:¬((i:Int)=(n:Int)):=by omega
 have hin2:i<=n:=by omega
 have HNX:=jq hn';clear hn';clear hcp1 hcp2 hW1 hg2 hv2 hz1l hZ1 hg hg1 hgB hfl hcl hcells hcs htk ho hA hxc hv hsz hcm;go_enter Tryz.func111,Tryz.ntmps111
 go_wp2_with (simp only[HOV.out])
 go_region_law (refine ZdD rfl (.tmp 73) (.tmp 76) 22 22 rfl (.slice (some ⟨g,(i+1)*7,none⟩) (n-i) (c-(i+1))) (.slice (some ⟨g,i*7,none⟩) (n+1-i) (c-i)) (by simp[Act.eval,Act.put]) (by simp[Act.eval,Act.put]) (HC1.out 3 (c-(i+1)) (c-i)) ?_)
 have hc2:=HC2.out 3 (c-i);go_wp2_with fail
 all_goals
  first|go_ret|skip
  rw[HRI.out];exact⟨_,_,rfl,HEND.out.1,HEND.out.2⟩
theorem Zlh(g n c i vb base:Nat)(xs:List Lot)(x:Lot)(w:World)(ho:Own L7 7 50 w base (.slice (some ⟨g,0,none⟩) n c) xs)(hv:BlkB w vb (XU x) 50)(hi:i<n)(hroom:c<n+1)(hn:n<=1000000)(hbs:base<=w.1.size):
 Calls Tryz.prog 111 #[.slice (some ⟨g,0,none⟩) n c,.int .i64 i,.slice (some ⟨vb,0,none⟩) 1 1] w (VZ base w (n+1) (xs.take i++x::xs.drop i)):=by
 obtain⟨hnx,hxc,hcm,hA⟩:=ho.facts
 have ho2:=ho.2
 rcases ho2 with ⟨hv0,_⟩|⟨g',cap',cur,hv1,hbg,hg,hnc,_,hcs,htk⟩
 ·cases hv0
 injection hv1 with a1 a2 a3;injection a1 with a1;injection a1 with a1 _;subst a1;subst a3
 subst hnx;have hsz:(Tryz.prog.info? 50).map (·.size)=some 7:=by kernel_rfl
 obtain⟨i0,z0,hu0,hi0,hz0,hs0,hb0,hzs0,_,_⟩:=Jm
 have hgB:BlkB w g cur 50:=hg;have hfl:(xs.flatMap L7).length=xs.length*7:=Qx Ql xs
 have hcells:∀(j:Nat) (v:Value),(xs.flatMap L7)[j]?=some v->cur[j]?=some v:=by
  intro j v hj;rw[<-htk,List.getElem?_take] at hj
  split at hj
  ·simpa using hj
  ·cases hj
 have hft:(xs.take i).flatMap L7=(xs.flatMap L7).take (i*7):=ZbL Ql xs i
 have hold:(Builtin.firstCells i0.size i (.slice (some ⟨g,0,none⟩) i c)).run Tryz.prog w.drew=.ok ((xs.take i).flatMap L7).toArray w.drew:=by
  rw[hs0]
  exact run_firstCells_some w.drew 7 i ⟨g,0,none⟩ i c _ (by rw[Qx Ql,List.length_take];rw[Nat.min_eq_left (by omega)]) (fun j v hj=>by
   rw[Addr.add_lit,Nat.zero_add]
   show w.cell? ⟨g,j,none⟩=some v
   rw[hft,List.getElem?_take] at hj
   split at hj
   ·exact hgB.cell j (hcells j v hj)
   ·cases hj)
 have hkk:(xs.length:Int)+1-(i:Int)=((xs.length+1-i:Nat):Int):=by omega
 have hik:i+(xs.length+1-i)=xs.length+1:=by omega
 have hrz:=fun ty=>Lib.run_append_grow_zeros (P:=Tryz.prog) w 22 3 ty 50 i0 z0 .i64 .i64 Tryz.underlying22 Tryz.underlying3 hi0 hz0 (some ⟨g,0,none⟩) i c _ hold (xs.length+1-i) (by omega) (by omega) (by omega) (by omega) (by rw[hb0];omega) (by rw[hb0,hik];exact growslice_fits hroom (by omega))
 rw[hik] at hrz;obtain⟨G,hG⟩:∃G,G=grownCap w (xs.length+1) c 50:=⟨_,rfl⟩
 have hGn:xs.length+1<=G:=by rw[hG];exact grownCap_ge w _ _ _
 have hGm:G<=maxLen:=by rw[hG];exact grownCap_le_maxLen w _ _ _ (by unfold maxLen;omega)
 rw[<-hG] at hrz;obtain⟨R,hR⟩:∃R:Array Value,R=((xs.take i).flatMap L7).toArray++Builtin.zeroCells z0.cells (xs.length+1-i)++Builtin.zeroCells z0.cells (G-(xs.length+1)):=⟨_,rfl⟩
 rw[<-hR] at hrz;have hzl:∀k,(Builtin.zeroCells z0.cells k).size=k*7:=fun k=>by simp[Builtin.zeroCells,hzs0]
 have hRs:R.size=G*7:=by
  rw[hR,Array.size_append,Array.size_append,hzl,hzl];simp only[List.size_toArray];rw[Qx Ql,List.length_take,Nat.min_eq_left (by omega)];omega
 have hRpre:∀j,j<i*7->R.toList[j]?=(xs.flatMap L7)[j]?:=by
  intro j hj;rw[hR];simp only[Array.toList_append];rw[List.getElem?_append_left (by rw[List.length_append,Qx Ql,List.length_take];omega),List.getElem?_append_left (by rw[Qx Ql,List.length_take];omega),hft,List.getElem?_take_of_lt hj]
 clear hG hR hold;obtain⟨W1,hW1⟩:∃W1,W1=w.drew.alloc (.cells R 50):=⟨_,rfl⟩
 rw[<-hW1] at hrz;have hgw:g<w.1.size:=hgB.lt;have hvw:vb<w.1.size:=hv.lt;have hp1:W1.heap[w.1.size]?=some (.cells R.toList.toArray 50 (0,0)):=by rw[hW1,Array.toArray_toList];exact heap_alloc_new w.drew _
 have hg1:BlkB W1 g cur 50:=by rw[hW1];exact BlkB.alloc (w:=w.drew) hgB _
 have hv1:BlkB W1 vb (XU x) 50:=by rw[hW1];exact BlkB.alloc (w:=w.drew) hv _
 have hrl:R.toList.length=G*7:=by simpa using hRs
 have hcp1:∀ty dc,(Builtin.copy_ #[22,22] ty #[.slice (some ⟨w.1.size,i*7,none⟩) (xs.length+1-i) dc,.slice (some ⟨vb,0,none⟩) 1 1]).run Tryz.prog W1=.ok (goInt 1) (W1.setRow w.1.size (splice R.toList (i*7) (L7 x)).toArray):=fun ty dc=>
  JL W1 _ _ ty 50 7 w.1.size (i*7) _ dc ⟨vb,0,none⟩ 1 1 1 R.toList 50 (L7 x) Tryz.underlying22 hsz hp1 (by simp only[Nat.min_def];split<;>omega) rfl
   (fun j v hj=>by
     rw[Addr.add_lit,Nat.zero_add];exact hv1.cell j (by rw[<-Zap];simpa using hj))
   (by rw[hrl,Ql];omega) (Vf x)
 obtain⟨Z1,hZ1⟩:∃Z1,Z1=splice R.toList (i*7) (L7 x):=⟨_,rfl⟩
 have hz1l:Z1.length=G*7:=by rw[hZ1,length_splice _ _ _ (by rw[hrl,Ql];omega),hrl]
 rw[<-hZ1] at hcp1;obtain⟨W2,hW2⟩:∃W2,W2=W1.setRow w.1.size Z1.toArray:=⟨_,rfl⟩
 rw[<-hW2] at hcp1;have hp2:W2.drew.heap[w.1.size]?=some (.cells Z1.toArray 50 (0,0)):=by rw[hW2];exact setRow_heap _ _ _ _ _ _ hp1
 have hg2:BlkB W2.drew g cur 50:=by rw[hW2];exact(setRow_other _ _ _ _ (by omega)).trans hg1
 have hd7:((xs.drop i).flatMap L7).length=(xs.length-i)*7:=by rw[Qx Ql,List.length_drop]
 have hcp2:∀ty dc sc,(Builtin.copy_ #[22,22] ty #[.slice (some ⟨w.1.size,(i+1)*7,none⟩) (xs.length-i) dc,.slice (some ⟨g,i*7,none⟩) (xs.length-i) sc]).run Tryz.prog W2.drew=.ok (goInt (xs.length-i:Nat)) (W2.drew.setRow w.1.size (splice Z1 ((i+1)*7) ((xs.drop i).flatMap L7)).toArray):=fun ty dc sc=>
  JL W2.drew _ _ ty 50 7 w.1.size ((i+1)*7) _ dc ⟨g,i*7,none⟩ _ sc (xs.length-i) Z1 50 ((xs.drop i).flatMap L7) Tryz.underlying22 hsz hp2 (by simp) hd7
   (fun j v hj=>by
     rw[Addr.add_lit]
     show W2.drew.cell? ⟨g,i*7+j,none⟩=some v
     exact hg2.cell (i*7+j) (hcells (i*7+j) v (by
      have e:(xs.flatMap L7).drop (i*7)=(xs.drop i).flatMap L7:=by
       conv=>lhs;rw[<-List.take_append_drop i xs,List.flatMap_append]
       rw[List.drop_append_of_le_length (by rw[Qx Ql,List.length_take];omega),List.drop_eq_nil_of_le (by rw[Qx Ql,List.length_take];omega),List.nil_append]
      rw[<-e,List.getElem?_drop] at hj;exact hj)))
   (by rw[hd7,hz1l];omega) (fun v hv=>by
     obtain⟨y,_,hy⟩:=List.mem_flatMap.1 hv
     exact Vf y v hy)
 have HRI:=jq (show VZ base w (xs.length+1) (xs.take i++x::xs.drop i)=fun e w'=>∃A c,e=.returned (.slice A (xs.length+1) c)/\Own L7 7 50 w' base (.slice A (xs.length+1) c) (xs.take i++x::xs.drop i)/\Below base w w' from rfl)
 have HEND:=jq (show Own L7 7 50 (W2.drew.setRow w.1.size (splice Z1 ((i+1)*7) ((xs.drop i).flatMap L7)).toArray) base (.slice (some ⟨w.1.size,0,none⟩) (xs.length+1) G) (xs.take i++x::xs.drop i)/\Below base w (W2.drew.setRow w.1.size (splice Z1 ((i+1)*7) ((xs.drop i).flatMap L7)).toArray) by
  have hln:(xs.take i++x::xs.drop i).length=xs.length+1:=by rw[List.length_append,List.length_cons,List.length_take,List.length_drop];omega
  refine⟨⟨Qx Ql _,.inr ⟨w.1.size,G,(splice Z1 ((i+1)*7) ((xs.drop i).flatMap L7)).toArray,by rw[hln],hbs,setRow_heap _ _ _ _ _ _ hp2,by rw[hln];exact hGn,hGm,by rw[List.size_toArray,length_splice _ _ _ (by rw[hz1l,hd7];omega),hz1l],?_⟩⟩,?_⟩
  ·rw[hln]
   show(splice Z1 ((i+1)*7) ((xs.drop i).flatMap L7)).take _=_
   refine Zik Ql R.toList xs x i (by omega) (by rw[hrl];omega) hRpre _ (by rw[length_splice _ _ _ (by rw[hz1l,hd7];omega),hz1l,hrl]) (fun j=> ?_);rw[YF _ _ _ (by rw[hz1l,hd7];omega),hd7]
   by_cases h1:j<i*7
   ·rw[if_pos h1,if_pos (by omega),hZ1,YF _ _ _ (by rw[hrl,Ql];omega),if_pos h1]
   ·rw[if_neg h1]
    by_cases h2:j<(i+1)*7
    ·rw[if_pos h2,if_pos h2,hZ1,YF _ _ _ (by rw[hrl,Ql];omega),if_neg h1,Ql,if_pos (by omega)]
    ·rw[if_neg h2,if_neg h2]
     by_cases h3:j<(xs.length+1)*7
     ·rw[if_pos h3,if_pos (by omega)]
     ·rw[if_neg h3,if_neg (by omega),hZ1,YF _ _ _ (by rw[hrl,Ql];omega),if_neg h1,Ql,if_neg (by omega)]
  ·rw[hW2,hW1];exact below_setRow (below_setRow (((Below.refl base w).drew.alloc (by exact hbs) _)) hbs _).drew hbs _)
 generalize VZ base w (xs.length+1) (xs.take i++x::xs.drop i)=post at*;generalize W2.drew.setRow w.1.size (splice Z1 ((i+1)*7) ((xs.drop i).flatMap L7)).toArray=W3 at*;rw[hkk.symm] at hrz;have HA1:=jq hrz;have HC1:=jq hcp1;have HC2:=jq hcp2;clear hrz hcp1 hcp2 hRpre hRs hrl hzl;obtain⟨n,hn'⟩:∃n,n=xs.length:=⟨_,rfl⟩
 rw[<-hn'] at HA1 HC1 HC2 HRI HEND hi hroom hn hGn ⊢;have HNX:=jq hn';clear hn';have hw1:IntKind.i64.wrap ((i:Int)+1)=(i:Int)+1:=by rw[IntKind.wrap_i64];omega
 have hb1:(0:Int)<=(i:Int)+1:=by omega
 have htn:((i:Int)+1).toNat=i+1:=by omega
 have hG63:G<=9223372036854775807:=by unfold maxLen at hGm;omega
 have hc63:c<=9223372036854775807:=by omega
 have hb2:¬(G=i+1):=by omega
 have hb3:(i:Int)<=(n:Int):=by omega
 have hb4:¬(G=i):=by omega
 have hb5:¬(c=i):=by have:=HNX.out;omega
 have hb6:i<=c:=by have:=HNX.out;omega
 have hb7:n<=c:=by have:=HNX.out;omega
 have hin:¬((i:Int)=(n:Int)):=by omega
 have hin2:i<=n:=by omega
 clear hW1 hW2 hp1 hp2 hg1 hg2 hv1 hz1l hZ1 hg hgB hfl hcells hcs htk ho hA hxc hv hsz hcm hkk hik hd7 hft hGm hu0 hi0 hz0 hs0 hb0 hzs0;have hc1:=HC1.out 3 (G-i);go_enter Tryz.func111,Tryz.ntmps111
 go_wp2_with (at_builtin;refine Lib.wpList_append_run _ rfl _ _ _ _ rfl _ _ rfl rfl _ _ (HA1.out 22) ?_)
 go_region_law (refine ZdD rfl (.tmp 50) (.tmp 53) 22 22 rfl (.slice (some ⟨w.1.size,(i+1)*7,none⟩) (n-i) (G-(i+1))) (.slice (some ⟨g,i*7,none⟩) (n-i) (c-i)) (by simp[Act.eval,Act.put]) (by simp[Act.eval,Act.put]) (HC2.out 3 (G-(i+1)) (c-i)) ?_)
 go_wp2_with fail
 all_goals
  first|go_ret|skip
  rw[HRI.out];exact⟨_,_,rfl,HEND.out.1,HEND.out.2⟩
end
section
attribute [local go_sem] Oper.semAt_some
theorem ZnZ{W:World}{q:Nat}{y:Lot}(h:BlkB W q (XU y) 50):Xg W W.1.size (some ⟨q,0,none⟩) 1 [y]:=by
 refine⟨rfl,fun _=>⟨q,0,rfl,h.lt,fun j z hj k u hk=> ?_⟩⟩
 cases j with
 |zero=>
  simp only[List.getElem?_cons_zero,Option.some.injEq] at hj;subst hj;rw[Nat.zero_mul,Nat.zero_add];exact h.cell k (by rw[<-Zap];simpa using hk)
 |succ j=>simp at hj
theorem Own.isCells{α:Type}{enc:α->List Value}{k base:Nat}{e:TypeId}{w:World}{v:Value}{xs:List α}(h:Own enc k e w base v xs)(j:Nat)(o:Obj)(hj:some j=v.ownBlock)(ho:w.heap[j]?=some o):o.isCells=true:=by
 rcases h.2 with ⟨rfl,_⟩|⟨g,cap,cur,rfl,_,hg,_⟩
 ·simp[Value.ownBlock] at hj
 ·simp only[Value.ownBlock,Option.some.injEq] at hj;subst hj;rw[hg] at ho;injection ho with ho;rw[<-ho];rfl
def Xn{α:Type}{p:α->Prop}(l:List {z:α//p z}):List α:=l.map (fun z=>z.1)
theorem Jn{α:Type}{p:α->Prop}(l:List {z:α//p z})(x:{z:α//p z}):Xn (l++[x])=Xn l++[x.1]:=by unfold Xn;rw[List.map_append];rfl
theorem Zgt{α:Type}{p:α->Prop}(l:List {z:α//p z}):(Xn l).length=l.length:=List.length_map _
theorem Zjf(Bs Bi:Nat)(A:Option Addr)(len cap:Nat)(xs:List Lot)(i:List UInt8)(w:World)(hBs:Box w Bs 22 (.slice A len cap))(hBi:Box w Bi 9 (.string ⟨i.toArray⟩))(hs:Xg w w.1.size A len xs)(hl:len<=1000000):
 Calls Tryz.prog 71 #[.slice none 0 0,.func (.func 72) #[] #[.pointer (some ⟨Bs,0,none⟩),.pointer (some ⟨Bi,0,none⟩)]] w (RetOwn L7 7 50 w.1.size w (Qb xs i)):=by
 have HPO:=jq (show RetOwn L7 7 50 w.1.size w (Qb xs i)=fun e w'=>∃A c,e=.returned (.slice A (Qb xs i).length c)/\Own L7 7 50 w' w.1.size (.slice A (Qb xs i).length c) (Qb xs i)/\Below w.1.size w w' from rfl);have hbA:Below w.1.size w (w.alloc (.cells #[.slice none 0 0] 22)):=(Below.refl _ _).alloc (Nat.le_refl _) _;have HSEQ:=jq (Zeh Fence.wide 4 trivial rfl (by omega) (fun b=>b<w.1.size) Bs Bi w.1.size A len cap xs i (w.alloc (.cells #[.slice none 0 0] 22)) (hBs.here hbA) (hBi.here hbA) hbA.size (hs.below hbA) hl (fun _ h=>h) hBi.lt);have HB0:=jq (Box.new w 22 (.slice none 0 0));have HBA:=jq hbA;have HLL:=jq (show(Qb xs i).length<=1000000 from Nat.le_trans (List.length_filter_le _ _) (by rw[<-hs.1];exact hl));generalize RetOwn L7 7 50 w.1.size w (Qb xs i)=post at*;have hsz:(w.alloc (.cells #[.slice none 0 0] 22)).heap.size=w.1.size+1:=by simp
 have HSZ:=jq hsz;clear hBs hBi hs hl hbA hsz;refine(callsIn_wide (n:=5)).1 ?_;refine callsIn_of_wp_marks Tryz.func71 rfl trivial ?_ rfl;simp only[Tryz.ntmps71,List.size_toArray,List.length_cons,List.length_nil,Nat.reduceAdd,Nat.reduceSub,Array.replicate_succ,Array.replicate_zero,List.push_toArray,List.append_toArray,List.nil_append,List.cons_append]
 gi_wp2_with fail
 generalize w.alloc _=W1 at*
 refine wpIn_rangeFunc_ownH (α:={z:Lot//z∈Qb xs i}) (F:=Fence.wide) (n:=5) rfl (by omega) (gf:=72) (lb:=#[.pointer (some ⟨Bs,0,none⟩),.pointer (some ⟨Bi,0,none⟩)]) rfl trivial (enters_of Tryz.func72 (by kernel_rfl) rfl)
  HSEQ.out (fun h k=>h.trans k) ?hKb (Below.refl _ _) (fun _=>rfl)
  (fun(pre:List {z:Lot//z∈Qb xs i}) W=>∃A1 c1,Box W w.1.size 22 (.slice A1 (Xn pre).length c1)/\Own L7 7 50 W w.1.size (.slice A1 (Xn pre).length c1) (Xn pre)/\Below w.1.size w W/\W1.1.size<=W.1.size) (fun _ _ _=>False)
  (fun pre W W' row ⟨A1,c1,h1,h2,h3,h4⟩ hg hr=>⟨A1,c1,h1.turned hg hr,h2.turned hg hr,Qu h3 hg h3.size (fun g e=>by have:=(hr g e).1;have:=HSZ.out;omega),Nat.le_trans h4 hg.size⟩)
  (fun _ _ _ _ _ h _ _=>h) ⟨none,0,HB0.out,Own.nil,HBA.out,Nat.le_refl _⟩
  (fun x a' W=>∃Bx,w.1.size<Bx/\BlkB W Bx (XU x.1) 50/\a'={tmps:=#[.slice none 0 0,.func (.func 72) #[] #[.pointer (some ⟨Bs,0,none⟩),.pointer (some ⟨Bi,0,none⟩)],.pointer (some ⟨w.1.size,0,none⟩),undef,.slice none 0 0,.pointer (some ⟨Bx,0,none⟩),.func (.func 72) #[] #[.pointer (some ⟨Bs,0,none⟩),.pointer (some ⟨Bi,0,none⟩)],XV x.1,undef,undef,undef,undef,undef],defers:=[]})
  (fun x a' _ W W' row ⟨Bx,h1,h2,h3⟩ hg hr=>⟨Bx,h1,(hg.block Bx h2.lt (fun e=>by
    obtain⟨_,o,ho,hc⟩:=hr _ e.symm
    unfold BlkB at h2;rw[h2] at ho;injection ho with ho;rw[<-ho] at hc
    cases hc)).trans h2,h3⟩) ?assign ?body ?done ?stop
 case hKb=>
  intro W l o o' hl _ _ _;exact KeepS.put (fun e=>by have:=HSZ.out;omega) _
 case stop=>intro D c pre W _ _ h;exact h.elim
 case assign=>
  rintro lr pre x W K ⟨A1,c1,hb,ho,hbl,hsz⟩ hK
  dsimp only[XV,S]
  gi_wp2
  refine hK _ _ ((KeepsOthers.alloc _ _).from _) (KeepS.below ((Below.refl _ W).alloc (Nat.le_refl _) _)) ⟨A1,c1,hb.alloc _,ho.alloc _,hbl.alloc hbl.size _,by simp;omega⟩ ⟨W.1.size,by have:=HSZ.out;omega,heap_alloc_new W _,rfl⟩
 case body=>
  rintro lr pre x a' W hlr ⟨rr,hrr⟩ ⟨A1,c1,hb,ho,hbl,hsz⟩ ⟨Bx,hBx,bX,rfl⟩ hlen;have HSN:=jq (Jn pre x);have hle:(Xn pre).length<=1000000:=by rw[Zgt];have:=HLL.out;omega
  generalize Xn pre=l at*;obtain⟨y,hy⟩:=x
  have q0:=bX.cell 0 rfl;have q1:=bX.cell 1 rfl;have q2:=bX.cell 2 rfl;have q3:=bX.cell 3 rfl;have q4:=bX.cell 4 rfl;have q5:=bX.cell 5 rfl;have q6:=bX.cell 6 rfl;have cb:=hb.cell;have HBX:=jq hb;have HO:=jq ho;have HBL:=jq hbl;have HBXX:=jq bX;have HSZW:=jq hsz;have HOA:=jq (ho.alloc (.cells #[.string ⟨y.id.toArray⟩,.string ⟨y.inst.toArray⟩,.int .i64 y.acq,.int .i64 y.opn,.string ⟨y.q.toArray⟩,.string ⟨y.c.toArray⟩,.string ⟨y.u.toArray⟩] 50));have HSL:=jq (ZnZ (y:=y) (show BlkB (W.alloc (.cells #[.string ⟨y.id.toArray⟩,.string ⟨y.inst.toArray⟩,.int .i64 y.acq,.int .i64 y.opn,.string ⟨y.q.toArray⟩,.string ⟨y.c.toArray⟩,.string ⟨y.u.toArray⟩] 50)) W.1.size (XU y) 50 from heap_alloc_new W _));have HBA2:=jq (hb.alloc (.cells #[.string ⟨y.id.toArray⟩,.string ⟨y.inst.toArray⟩,.int .i64 y.acq,.int .i64 y.opn,.string ⟨y.q.toArray⟩,.string ⟨y.c.toArray⟩,.string ⟨y.u.toArray⟩] 50));have HBB:=jq (hbl.alloc hbl.size (.cells #[.string ⟨y.id.toArray⟩,.string ⟨y.inst.toArray⟩,.int .i64 y.acq,.int .i64 y.opn,.string ⟨y.q.toArray⟩,.string ⟨y.c.toArray⟩,.string ⟨y.u.toArray⟩] 50));have HLE:=jq (show l.length+1<=100000000000 by omega);have HGA:=jq (World.grownBy_alloc W (.cells #[.string ⟨y.id.toArray⟩,.string ⟨y.inst.toArray⟩,.int .i64 y.acq,.int .i64 y.opn,.string ⟨y.q.toArray⟩,.string ⟨y.c.toArray⟩,.string ⟨y.u.toArray⟩] 50) none);have hlt:w.1.size<W.1.size:=hb.lt;clear hb ho hbl bX hsz hrr hle hlen
  gi_wp2_with (gi_at_builtin;refine ZeV _ rfl (.tmp 8) (.tmp 10) _ rfl Jm Ql Vf (base:=w.1.size) (.slice A1 l.length c1) l rfl HOA.out _ _ 1 1 [y] rfl HSL.out HLE.out HBB.out.size ?_;intro A2 c2 w2 ho2 hg2 hat2;have hb2:=HBA2.out.grown hg2 (HOA.out.neBox HBA2.out (by decide));have cb2:=hb2.cell;have fb2:=hb2.frozen)
  have hown:∀g,(Value.slice A1 l.length c1).ownBlock=some g->w.1.size<=g/\g≠w.1.size:=fun g e=>by
   obtain⟨A',c',hv,_,_,_,h5⟩:=HOA.out.form
   exact⟨(h5 g e).2.1,fun e2=>HOA.out.neBox HBA2.out (by decide) (by rw[e,e2])⟩
  refine⟨?_,?_,A2,c2,?_,?_,?_,?_⟩
  ·exact((KeepsOthers.alloc _ _).trans ((KeepsOthers.of_grownBy hg2 (fun j o e ho=>HOA.out.isCells j o e.symm ho)).trans (KeepsOthers.setCell _ _ _))).from _
  ·exact(KeepS.below ((Below.refl _ W).alloc (Nat.le_refl _) _)).trans ((KeepS.grown hg2 (fun r e h=>by have:=(hown r e).1;omega)).trans (KeepS.set (S:=fun b=>b<w.1.size) (p:=⟨w.1.size,0,none⟩) (Nat.lt_irrefl w.1.size) _))
  ·rw[HSN.out,List.length_append];exact hb2.set_ _
  ·rw[HSN.out,List.length_append];exact ho2.far (fun h=>ho2.neBox hb2 (by decide) h.symm) _
  ·exact(Qu HBB.out hg2 HBB.out.size (fun g e=>(hown g e).1)).setCell (p:=⟨w.1.size,0,none⟩) (Nat.le_refl _) _
  ·have:=hg2.size;have:=HSZW.out;simp at *; omega
 case done=>
  rintro D ys W hD hS ⟨A1,c1,hb,ho,hbl,hsz⟩ hK;have cb:=hb.cell;have HYS:=jq (show Xn ys=Qb xs i from hS);have HO:=jq ho;have HBL:=jq hbl;rw[HYS.out] at cb HO;clear ho hbl hb hS
  gi_wp2
  refine⟨by simp,.inl ⟨_,_,rfl,run_takeDeferred hK,?_⟩⟩;refine⟨_,results_tmp rfl _ _ _,?_⟩;rw[HPO.out];have hD':=HSZ.out;exact⟨A1,c1,rfl,HO.out.turned (grownBy_putObj' W D (.deferred none)) (B:=w.1.size) (fun r e=>by cases e;exact⟨by omega,_,hK,rfl⟩),HBL.out.grown (grownBy_putObj' W D (.deferred none)) HBL.out.size (fun r e=>by cases e;omega)⟩
theorem Zgu(Bs Bi:Nat)(A:Option Addr)(len cap:Nat)(xs:List Lot)(i:List UInt8)(w:World)(hBs:Box w Bs 22 (.slice A len cap))(hBi:Box w Bi 9 (.string ⟨i.toArray⟩))(hs:Xg w w.1.size A len xs)(hl:len<=1000000):
 Calls Tryz.prog 32 #[.func (.func 72) #[] #[.pointer (some ⟨Bs,0,none⟩),.pointer (some ⟨Bi,0,none⟩)]] w (RetOwn L7 7 50 w.1.size w (Qb xs i)):=by
 have HPO:=jq (show RetOwn L7 7 50 w.1.size w (Qb xs i)=fun e w'=>∃A c,e=.returned (.slice A (Qb xs i).length c)/\Own L7 7 50 w' w.1.size (.slice A (Qb xs i).length c) (Qb xs i)/\Below w.1.size w w' from rfl);have HA:=jq (Zjf Bs Bi A len cap xs i w hBs hBi hs hl);rw[HPO.out] at HA;generalize RetOwn L7 7 50 w.1.size w (Qb xs i)=post at*;clear hBs hBi hs hl;go_enter Tryz.func32,Tryz.ntmps32
 go_wp2_with fail
 refine HA.out.mono ?_;rintro e w1 ⟨A1,c1,rfl,ho,hb⟩;have HO:=jq ho;clear ho;go_wp2_with fail
 first|go_ret|skip
 rw[HPO.out];exact⟨A1,c1,rfl,HO.out,hb⟩
theorem Vp(A:Option Addr)(n c:Nat)(xs:List Lot)(i:List UInt8)(w:World)(hs:Xg w w.1.size A n xs)(hl:n<=1000000):
 Calls Tryz.prog 9 #[.slice A n c,S i] w (RetOwn L7 7 50 w.1.size w (Qb xs i)):=by
 have HPO:=jq (show RetOwn L7 7 50 w.1.size w (Qb xs i)=fun e w'=>∃A c,e=.returned (.slice A (Qb xs i).length c)/\Own L7 7 50 w' w.1.size (.slice A (Qb xs i).length c) (Qb xs i)/\Below w.1.size w w' from rfl);have hb0:Below w.1.size w ((w.alloc (.cells #[.slice A n c] 22)).alloc (.cells #[.string ⟨i.toArray⟩] 9)):=((Below.refl _ _).alloc (Nat.le_refl _) _).alloc (by simp) _;have HLO:=jq (Zh1 A n c i w);have HCO:=jq (Zgu w.1.size (w.1.size+1) A n c xs i ((w.alloc (.cells #[.slice A n c] 22)).alloc (.cells #[.string ⟨i.toArray⟩] 9)) ((Box.new w _ _).alloc _) (by have:=Box.new (w.alloc (.cells #[.slice A n c] 22)) 9 (.string ⟨i.toArray⟩);simpa using this) ((hs.below hb0).more hb0.size) hl);have HB0:=jq hb0;generalize RetOwn L7 7 50 w.1.size w (Qb xs i)=post at*;clear hs hl hb0;unfold S at*
 unfold RetOwn at HCO;go_enter Tryz.func9,Tryz.ntmps9
 go_wp2_with fail
 refine HLO.out.mono ?_;rintro e w1 ⟨rfl,rfl⟩;go_wp2_with fail
 refine HCO.out.mono ?_;rintro e w2 ⟨A1,c1,rfl,ho,hb⟩;have HO:=jq ho;clear ho;go_wp2_with fail
 first|go_ret|skip
 rw[HPO.out];exact⟨A1,c1,rfl,HO.out.base_ HB0.out.size,HB0.out.trans (hb.mono HB0.out.size)⟩
end
section
theorem ZcC(g:Nat)(cb:Array Value)(p:Lot->Bool)(A:Option Addr)(n c:Nat)(xs:List Lot)(w:World)(eg:∀args w,(callFunc g args).run Tryz.prog w=.ok (.enter g args) w)
 (hp:∀(W:World) (x:Lot),x∈xs->Below w.1.size w W->Calls Tryz.prog g (#[XV x]++cb) W fun e w'=>e=.returned (.bool (p x))/\Below W.1.size W w') (hr:Sl L7 7 w w.1.size A n xs) (hn:n<=1000000000):
 Calls Tryz.prog 38 #[.slice A n c,.func (.func g) #[] cb] w fun e w'=>e=.returned (.int .i64 (Zbk p xs))/\Below w.1.size w w':=by
 have HPR:=jq hp;have HR:=jq hr;clear hp hr;go_enter Tryz.func38,Tryz.ntmps38
 go_wp2
 go_loopw [5,8] (fun _ i wr=>∃j:Nat,j<=n/\i=.int .i64 j/\Hid ((xs.take j).any p=false)/\Below w.1.size w wr) (fun _ i _=>n-(intOf i).toNat)
 case atStart=>exact⟨0,Nat.zero_le _,rfl,by show _=_;simp,Below.refl _ _⟩
 case round=>
  obtain⟨j,hj,rfl,HN,hb⟩:=hrel
  by_cases hlt:j<n
  ·obtain⟨b,off,r,rfl,hbl,hxj,hd⟩:=(HR.out.below hb).at_ hlt
   have d0:wr.cell? ⟨b,off+j*7,none⟩=some (.string ⟨r.id.toArray⟩):=hd 0 _ rfl;have d1:wr.cell? ⟨b,off+j*7+1,none⟩=some (.string ⟨r.inst.toArray⟩):=hd 1 _ rfl;have d2:wr.cell? ⟨b,off+j*7+2,none⟩=some (.int .i64 r.acq):=hd 2 _ rfl;have d3:wr.cell? ⟨b,off+j*7+3,none⟩=some (.int .i64 r.opn):=hd 3 _ rfl;have d4:wr.cell? ⟨b,off+j*7+4,none⟩=some (.string ⟨r.q.toArray⟩):=hd 4 _ rfl;have d5:wr.cell? ⟨b,off+j*7+5,none⟩=some (.string ⟨r.c.toArray⟩):=hd 5 _ rfl;have d6:wr.cell? ⟨b,off+j*7+6,none⟩=some (.string ⟨r.u.toArray⟩):=hd 6 _ rfl;have HX:=jq hxj;have hcall:=HPR.out wr r (List.mem_of_getElem? hxj) hb;unfold XV S at hcall;clear hxj hd;have HC:=jq hcall;clear hcall
   cases hq:p r with
   |true=>
    rw[hq] at HC;have HQ:=jq hq;clear hq;go_wp2_with (go_at_fn g;refine(HC.out).mono ?_;rintro e w' ⟨rfl,hb'⟩)
    go_ret
    exact⟨Qf (Zbl HX.out HQ.out HN.out).symm,hb.trans (hb'.mono hb.size)⟩
   |false=>
    rw[hq] at HC;have HQ:=jq hq;clear hq;go_wp2_with (go_at_fn g;refine(HC.out).mono ?_;rintro e w' ⟨rfl,hb'⟩)
    go_roundw
    case rel=>exact⟨j+1,by omega,by go_num,ZaE HX.out HN.out HQ.out,hb.trans (hb'.mono hb.size)⟩
    case measure=>simp[intOf];omega
  ·go_wp2
   go_ret
   exact⟨Qf (ZaD (by have:=HN.out;rwa [List.take_of_length_le (by have:=HR.out.1;omega)] at this)).symm,hb⟩
end
section
theorem Zjx(x:Lot)(id:List UInt8)(B:Nat)(W:World)(hB:W.cell? ⟨B,0,none⟩=some (.string ⟨id.toArray⟩)):Calls Tryz.prog 39 (#[XV x]++#[.pointer (some ⟨B,0,none⟩)]) W fun e w'=>e=.returned (.bool (x.id==id))/\Below W.1.size W w':=by
 have hb:=(Below.refl W.1.size W).alloc (Nat.le_refl _) (.cells #[.string ⟨x.id.toArray⟩,.string ⟨x.inst.toArray⟩,.int .i64 x.acq,.int .i64 x.opn,.string ⟨x.q.toArray⟩,.string ⟨x.c.toArray⟩,.string ⟨x.u.toArray⟩] 50);have hlt:=World.block_lt_of_cell? W _ hB;have HB:=jq hb;have c1:=(hb.cell (p:=⟨B,0,none⟩) hlt).trans hB;have hn:=heap_alloc_new W (.cells #[.string ⟨x.id.toArray⟩,.string ⟨x.inst.toArray⟩,.int .i64 x.acq,.int .i64 x.opn,.string ⟨x.q.toArray⟩,.string ⟨x.c.toArray⟩,.string ⟨x.u.toArray⟩] 50);have c0:=cell_of_row _ _ 0 _ _ _ hn;simp only[List.getElem?_toArray,List.getElem?_cons_zero] at c0;clear hb hn hB hlt;unfold XV S
 show Calls _ _ #[.agg #[.string ⟨x.id.toArray⟩,.string ⟨x.inst.toArray⟩,.int .i64 x.acq,.int .i64 x.opn,.string ⟨x.q.toArray⟩,.string ⟨x.c.toArray⟩,.string ⟨x.u.toArray⟩],.pointer (some ⟨B,0,none⟩)] _ _
 go_enter Tryz.func39,Tryz.ntmps39
 go_wp2_with fail
 first|go_ret|skip
 exact⟨rfl,HB.out⟩
def Zax(ls:List Lot)(id:List UInt8):Int:=Zbk (fun x:Lot=>x.id==id) ls
theorem Jr(A:Option Addr)(n c:Nat)(ls:List Lot)(id:List UInt8)(w:World)(hs:Xg w w.1.size A n ls)(hn:n<=1000000000):
 Calls Tryz.prog 12 #[.slice A n c,S id] w fun e w'=>e=.returned (.tuple #[.int .i64 (max (Zax ls id) 0),.bool (decide (0<=Zax ls id))])/\Below w.1.size w w':=by
 have hbA:=(Below.refl w.1.size w).alloc (Nat.le_refl _) (.cells #[.string ⟨id.toArray⟩] 9);have hn1:=heap_alloc_new w (.cells #[.string ⟨id.toArray⟩] 9);have c0:(w.alloc (.cells #[.string ⟨id.toArray⟩] 9)).cell? ⟨w.1.size,0,none⟩=some (.string ⟨id.toArray⟩):=cell_of_row _ _ 0 _ _ _ hn1;have hlt:=World.block_lt_of_cell? _ _ c0
 have HI:=jq (ZcC 39 #[.pointer (some ⟨w.1.size,0,none⟩)] (fun x:Lot=>x.id==id) A n c ls (w.alloc (.cells #[.string ⟨id.toArray⟩] 9)) (enters_of Tryz.func39 (by kernel_rfl) rfl)
  (fun W' x _ hb'=>Zjx x id w.1.size W' ((hb'.cell (p:=⟨w.1.size,0,none⟩) hlt).trans c0)) (hs.here hbA) hn)
 have HFI:=jq (show Zax ls id=Zbk (fun x:Lot=>x.id==id) ls from rfl);rw[<-HFI.out] at HI;clear HFI;generalize Zax ls id=z at*;have HB:=jq hbA;clear hbA hn1 c0 hlt hs;unfold S;go_enter Tryz.func12,Tryz.ntmps12
 go_wp2_with fail
 refine HI.out.mono ?_;rintro e w1 ⟨rfl,hb⟩;go_wp2_with fail
 first|go_ret2|skip
 exact⟨rfl,HB.out.trans (hb.mono (by simp))⟩
end
section
theorem ZgE{l:List Lot}(hn:(l.map (·.id)).Nodup){z:Lot}(hz:z∈l):∃j:Nat,Zax l z.id=(j:Int)/\l[j]?=some z:=by
 obtain⟨j,hj,e⟩:=List.getElem_of_mem hz
 refine⟨j,Zbl (List.getElem?_eq_some_iff.2 ⟨hj,e⟩) (by simp) ?_,List.getElem?_eq_some_iff.2 ⟨hj,e⟩⟩;rw[List.any_eq_false];intro x hx;obtain⟨i,hi,ei⟩:=List.mem_take_iff_getElem.1 hx
 have hlt:i<j:=by omega
 have h1:=List.pairwise_iff_getElem.1 hn i j (by rw[List.length_map];omega) (by rw[List.length_map];exact hj) hlt;rw[List.getElem_map,List.getElem_map,e,ei] at h1;simpa using h1
end
section
attribute [local go_sem ↓] Go.wp_at_zero Go.wp_at_succ
theorem ZgO(A A':Option Addr)(n c c':Nat)(xs:List Lot)(w:World)(h1:Xg w w.1.size A n xs)(h2:Xg w w.1.size A' n xs)(hn:n<=1000000):
 Calls Tryz.prog 34 #[.slice A n c,.slice A' n c'] w fun e w'=>e=.returned (.bool true)/\Below w.1.size w w':=by
 have H1:=jq h1;have H2:=jq h2;clear h1 h2;have hne:((n:Int) !=(n:Int))=false:=by simp
 go_enter Tryz.func34,Tryz.ntmps34
 go_wp2_with fail
 go_loopw [5,13] (fun _ j wr=>∃k:Nat,k<=n/\j=.int .i64 k/\Hid (Below w.1.size w wr)) (fun _ j _=>n-(intOf j).toNat)
 case atStart=>exact⟨0,Nat.zero_le _,rfl,Below.refl _ _⟩
 case round=>
  obtain⟨k,hk,rfl,HB⟩:=hrel
  by_cases hlt:k<n
  ·obtain⟨b,off,y,rfl,hb,hy,d0,d1,d2,d3,d4,d5,d6⟩:=(H1.out.here HB.out).lot7 hlt
   obtain⟨b2,off2,z,rfl,hb2,hz,e0,e1,e2,e3,e4,e5,e6⟩:=(H2.out.here HB.out).lot7 hlt
   have hyz:z=y:=by rw[hy] at hz;injection hz with hz;exact hz.symm
   subst hyz;clear hy hz hb hb2;have i1:(0:Int)<=(k:Int):=by omega
   have i2:(k:Int)<(n:Int):=by omega
   go_upto_region 6 with (fail)
   go_region_held3 (fun X=>X.cell? ⟨b,off+k*7,none⟩=some (.string ⟨z.id.toArray⟩)/\X.cell? ⟨b,off+k*7+1,none⟩=some (.string ⟨z.inst.toArray⟩)/\X.cell? ⟨b,off+k*7+2,none⟩=some (.int .i64 z.acq)/\X.cell? ⟨b,off+k*7+3,none⟩=some (.int .i64 z.opn)/\X.cell? ⟨b,off+k*7+4,none⟩=some (.string ⟨z.q.toArray⟩)/\X.cell? ⟨b,off+k*7+5,none⟩=some (.string ⟨z.c.toArray⟩)/\X.cell? ⟨b,off+k*7+6,none⟩=some (.string ⟨z.u.toArray⟩)/\X.cell? ⟨b2,off2+k*7,none⟩=some (.string ⟨z.id.toArray⟩)/\X.cell? ⟨b2,off2+k*7+1,none⟩=some (.string ⟨z.inst.toArray⟩)/\X.cell? ⟨b2,off2+k*7+2,none⟩=some (.int .i64 z.acq)/\X.cell? ⟨b2,off2+k*7+3,none⟩=some (.int .i64 z.opn)/\X.cell? ⟨b2,off2+k*7+4,none⟩=some (.string ⟨z.q.toArray⟩)/\X.cell? ⟨b2,off2+k*7+5,none⟩=some (.string ⟨z.c.toArray⟩)/\X.cell? ⟨b2,off2+k*7+6,none⟩=some (.string ⟨z.u.toArray⟩)) (go_keep) (fail)
   all_goals
    go_wp2_with fail
    exact⟨⟨k+1,by omega,by simp,HB.out.drew⟩,by simp[intOf];omega⟩
  ·obtain rfl:k=n:=by omega
   go_wp2_with fail
   first|go_ret|skip
   exact⟨rfl,HB.out⟩
end
section
attribute [local go_sem ↓] Go.wp_at_zero Go.wp_at_succ
theorem ZjN(A A':Option Addr)(n c c':Nat)(xs:List Lot)(w:World)(h1:Xg w w.1.size A n xs)(h2:Xg w w.1.size A' n xs)(hn:n<=1000000):
 Calls Tryz.prog 10 #[.slice A n c,.slice A' n c'] w fun e w'=>e=.returned (.bool true)/\Below w.1.size w w':=by
 have HE:=jq (ZgO A A' n c c' xs w h1 h2 hn);clear h1 h2;go_enter Tryz.func10,Tryz.ntmps10
 go_wp2_with fail
 refine HE.out.mono ?_;rintro e w1 ⟨rfl,hb⟩;go_wp2_with fail
 first|go_ret|skip
 exact⟨rfl,hb⟩
end
section
theorem ZdX(g:Nat)(cb:Array Value)(p:Lot->Bool)(A:Option Addr)(n c:Nat)(xs:List Lot)(w:World)(eg:∀args w,(callFunc g args).run Tryz.prog w=.ok (.enter g args) w)
 (hp:∀(W:World) (x:Lot),x∈xs->Below w.1.size w W->Calls Tryz.prog g (#[XV x]++cb) W fun e w'=>e=.returned (.bool (p x))/\Below W.1.size W w') (hr:Xg w w.1.size A n xs) (hn:n<=1000000000):
 Calls Tryz.prog 21 #[.slice A n c,.func (.func g) #[] cb] w fun e w'=>e=.returned (.bool (xs.any p))/\Below w.1.size w w':=by
 have H:=jq (ZcC g cb p A n c xs w eg hp hr hn);clear hp eg hr;have e:=VF p xs;generalize Zbk p xs=z at*;have E:=jq e;clear e;go_enter Tryz.func21,Tryz.ntmps21
 go_wp2_with (go_at_call 38;refine(H.out).mono ?_;rintro e w' ⟨rfl,hb'⟩)
 go_ret
 exact⟨Qi E.out,hb'⟩
end
end Go.Proofs.YtmamnnaiogidaaaGreatDoor
