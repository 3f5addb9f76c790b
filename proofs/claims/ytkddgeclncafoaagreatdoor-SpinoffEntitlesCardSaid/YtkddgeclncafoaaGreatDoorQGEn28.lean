/- Lv, Lof, Lg, Sz1, Li, Lt4, InL, Lco. -/
import Derived.Test.YtkddgeclncafoaaGreatDoorQGEn36
import Derived.Test.YtkddgeclncafoaaGreatDoorQGEn41
import Derived.Lib.Overlaps
import Derived.Lib.LazyBuf
import Derived.Laws.Externs
import Derived.Deep.RegionLaw
import Derived.RegionTactic
set_option maxRecDepth 100000
set_option maxHeartbeats 4000000
namespace Go.Proofs.YtkddgeclncafoaaGreatDoor
open Go.Lib renaming hid→jq
open Go.RowKit Go.Shelf
section
def L7(l:Lot):List Value:=[S l.id,S l.inst,.int .i64 l.acq,.int .i64 l.opn,S l.q,S l.c,S l.u]
def Zat(l:Lot):Value:=.agg #[S l.id,S l.inst,.int .i64 l.acq,.int .i64 l.opn,S l.q,S l.c,S l.u]
theorem Zbt(l:Lot):(L7 l).length=7:=rfl
theorem ZhV(l:Lot):∀u∈L7 l,u.oneCell'=true:=by
 intro u hu;simp only[L7,List.mem_cons,List.mem_nil_iff,or_false] at hu
 rcases hu with rfl|rfl|rfl|rfl|rfl|rfl|rfl<;>rfl
abbrev YI(w:World)(B:Nat)(A:Option Addr)(n:Nat)(xs:List Lot):Prop:=Sl L7 7 w B A n xs
structure Lot.Sz (L:Nat) (l:Lot):Prop where
 id:l.id.length<=L
 inst:l.inst.length<=L
 q:l.q.length<=L
 c:l.c.length<=L
 u:l.u.length<=L
 a1: -9223372036854775808<=l.acq
 a2:l.acq<=9223372036854775807
 o1: -9223372036854775808<=l.opn
 o2:l.opn<=9223372036854775807
end
section
attribute [local go_sem] Oper.semAt_some
theorem ZhW(A:Option Addr)(n c:Nat)(i:List UInt8)(w:World):
 Calls Tryz.prog 46 #[.slice A n c,S i] w fun e w'=>e=.returned (.func (.func 88) #[] #[.pointer (some ⟨w.1.size,0,none⟩),.pointer (some ⟨w.1.size+1,0,none⟩)])/\w'=(w.alloc (.cells #[.slice A n c] 22)).alloc (.cells #[.string ⟨i.toArray⟩] 9):=by
 unfold S;go_enter Tryz.func46,Tryz.ntmps46
 go_wp2
 go_ret
 exact⟨rfl,rfl⟩
theorem Sl.lot7{w:World}{B:Nat}{A:Option Addr}{n:Nat}{xs:List Lot}{i:Nat}(h:YI w B A n xs)(hi:i<n):
 ∃b off x,A=some ⟨b,off,none⟩/\b<B/\xs[i]?=some x/\w.cell? ⟨b,off+i*7,none⟩=some (.string ⟨x.id.toArray⟩)/\w.cell? ⟨b,off+i*7+1,none⟩=some (.string ⟨x.inst.toArray⟩)/\w.cell? ⟨b,off+i*7+2,none⟩=some (.int .i64 x.acq)/\
  w.cell? ⟨b,off+i*7+3,none⟩=some (.int .i64 x.opn)/\w.cell? ⟨b,off+i*7+4,none⟩=some (.string ⟨x.q.toArray⟩)/\w.cell? ⟨b,off+i*7+5,none⟩=some (.string ⟨x.c.toArray⟩)/\w.cell? ⟨b,off+i*7+6,none⟩=some (.string ⟨x.u.toArray⟩):=by
 obtain⟨b,off,x,hA,hb,hx,hc⟩:=h.at_ hi
 exact⟨b,off,x,hA,hb,hx,hc 0 _ rfl,hc 1 _ rfl,hc 2 _ rfl,hc 3 _ rfl,hc 4 _ rfl,hc 5 _ rfl,hc 6 _ rfl⟩
theorem Zfp{xs:List Lot}{i:List UInt8}{k:Nat}{x:Lot}(h:xs[k]?=some x):Qf (xs.take (k+1)) i=Qf (xs.take k) i++if(x.inst==i)=true then[x] else[]:=by
 obtain⟨hk,rfl⟩:=List.getElem?_eq_some_iff.1 h
 rw[List.take_succ_eq_append_getElem hk];unfold Qf;rw[List.filter_append]
 congr 1
 by_cases e:(xs[k].inst==i)=true
 ·rw[if_pos e];simp[List.filter,e]
 ·rw[if_neg e];simp only[Bool.not_eq_true] at e;simp[List.filter,e]
theorem ZgJ(xs:List Lot)(i:List UInt8)(k:Nat):Qf (xs.take k) i <+: Qf xs i:=by
 refine⟨Qf (xs.drop k) i,?_⟩;unfold Qf;rw[<-List.filter_append,List.take_append_drop]
theorem ZdE(F:Fence)(n:Nat)(hF:F.fn 88)(hro:F.round=none)(hn:1<=n)(St:Nat->Prop)(Bs Bi n₀:Nat)(A:Option Addr)(len cap:Nat)(xs:List Lot)(i:List UInt8)(w:World)
 (hBs:Box w Bs 22 (.slice A len cap)) (hBi:Box w Bi 9 (.string ⟨i.toArray⟩)) (hn₀:n₀<=w.1.size) (hs:YI w n₀ A len xs) (hl:len<=1000000) (hS:∀b,b<n₀->St b) (hSi:St Bi):
 SeqStopsK F n Tryz.prog 88 #[.pointer (some ⟨Bs,0,none⟩),.pointer (some ⟨Bi,0,none⟩)] (fun z:{z:Lot//z∈Qf xs i}=>#[Zat z.1]) (KeepS St) (fun ys=>ys.map (·.1)=Qf xs i) (fun pre=>pre.map (·.1) <+: Qf xs i) (Qf xs i).length w:=fun l J Jx W hW hJ hJx hY h0=>by
 have bs:=hBs.here hW;have HBI:=jq (hBi.here hW);have HS:=jq (hs.below (hW.mono hn₀));have hsz:=hW.size;have cs:=bs.cell;have HJ:=jq hJ;have HY:=jq hY;have H0:=jq h0;have HST:=jq hS;have HSI:=jq hSi;have HN0:=jq (show n₀<=W.1.size by omega);have HLE:=jq hs.1;clear hBs hBi hs hW hJ hJx hY h0 hn₀ hS hSi hsz bs;refine callsIn_of_wp Tryz.func88 rfl hF ?_ hro;simp only[Tryz.ntmps88,List.size_toArray,List.length_cons,List.length_nil,Nat.reduceAdd,Nat.reduceSub,Array.replicate_succ,Array.replicate_zero,List.push_toArray,List.append_toArray,List.nil_append,List.cons_append]
 gi_wp2
 gi_loopw [8] (fun j wr=>∃(k:Nat) (pre:List {z:Lot//z∈Qf xs i}),k<=len/\j=.int .i64 k/\Hid (pre.map (·.1)=Qf (xs.take k) i)/\Hid (J pre wr)/\Hid (YI wr n₀ A len xs)/\Hid (Box wr Bi 9 (.string ⟨i.toArray⟩))/\Hid (W.1.size<=wr.1.size)) (fun j _=>len-(intOf j).toNat)
 case atStart=>exact⟨0,[],Nat.zero_le _,rfl,(show _=_ by simp[Qf]),H0,HS,HBI,Nat.le_refl _⟩
 case round=>
  clear HS HBI H0;obtain⟨k,pre,hk,rfl,HP,HJS,HS,HBI,HSZ⟩:=hrel
  by_cases hlt:k<len
  ·obtain⟨b,off,x,rfl,hb,hx,d0,d1,d2,d3,d4,d5,d6⟩:=HS.out.lot7 hlt
   have HX:=jq hx;have HT:=jq (Zfp (i:=i) hx);have HPR:=jq (ZgJ xs i (k+1));clear hx;have HG:=jq (World.grownBy_alloc wr (.cells #[.string ⟨x.id.toArray⟩,.string ⟨x.inst.toArray⟩,.int .i64 x.acq,.int .i64 x.opn,.string ⟨x.q.toArray⟩,.string ⟨x.c.toArray⟩,.string ⟨x.u.toArray⟩] 50) none);have HJ1:=jq (HJ.out pre wr _ none HJS.out HG.out (fun r e=>by cases e));have bi:=HBI.out.cell;have hbl:Bi<wr.1.size:=HBI.out.lt;have hbn:Bi≠wr.1.size:=by omega
   have HBA:=jq (HBI.out.alloc (.cells #[.string ⟨x.id.toArray⟩,.string ⟨x.inst.toArray⟩,.int .i64 x.acq,.int .i64 x.opn,.string ⟨x.q.toArray⟩,.string ⟨x.c.toArray⟩,.string ⟨x.u.toArray⟩] 50));have HSA:=jq (HS.out.alloc (by have:=HSZ.out;have:=HN0.out;omega) (.cells #[.string ⟨x.id.toArray⟩,.string ⟨x.inst.toArray⟩,.int .i64 x.acq,.int .i64 x.opn,.string ⟨x.q.toArray⟩,.string ⟨x.c.toArray⟩,.string ⟨x.u.toArray⟩] 50))
   by_cases hq:(x.inst==i)=true
   ·have hmem:x∈Qf xs i:=List.mem_filter.2 ⟨List.mem_of_getElem? HX.out,hq⟩;have HT2:=jq (show Qf (xs.take (k+1)) i=Qf (xs.take k) i++[x] by rw[HT.out,if_pos hq])
    obtain⟨fn,tmps,assign,body,hy,hR⟩:=HY.out pre ⟨x,hmem⟩ _ HJ1.out (by
     have h1:=HPR.out.length_le;rw[HT2.out,<-HP.out] at h1;simp at h1;omega)
    dsimp only[Zat,S] at hy
    have HR:=jq hR;have HM:=jq hmem;clear hR
    gi_wp2
    refine HR.out.mono ?_;rintro e W3 (⟨rfl,hJ3,hk3⟩|⟨rfl,hJx3⟩)
    ·have HJ3:=jq hJ3;have HK3:=jq hk3;clear hJ3 hk3
     gi_wp2
     go_roundw
     case rel=>
      exact⟨k+1,pre++[⟨x,hmem⟩],by omega,by go_num,(show _=_ by rw[HT2.out,List.map_append,HP.out];rfl),HJ3,HK3.out.sl HSA.out (fun b hb=>⟨HST.out b hb,by have:=HSZ.out;have:=HN0.out;simp;omega⟩),HK3.out.box HBA.out HSI.out,(by have:=HK3.out.1;have:=HSZ.out;simp at *; show _<=_;omega)⟩
     case measure=>simp[intOf];omega
    ·have HJ3:=jq hJx3;clear hJx3
     gi_wp2
     refine bodyPost_ret (results_none rfl _ _ _) rfl ?_;exact⟨⟨_,rfl⟩,.inr ⟨pre++[⟨x,hmem⟩],by rw[List.map_append,HP.out];show _++[x] <+: _;rw[<-HT2.out];exact HPR.out,HJ3.out⟩⟩
   ·have hq':(x.inst==i)=false:=by simpa using hq
    have HT2:=jq (show Qf (xs.take (k+1)) i=Qf (xs.take k) i by rw[HT.out,if_neg hq,List.append_nil]);clear hq
    gi_wp2
    refine⟨fun _ h=>(by cases h),?_⟩
    gi_wp2
    go_roundw
    case rel=>exact⟨k+1,pre,by omega,by go_num,(show _=_ by rw[HT2.out];exact HP.out),HJ1,HSA,HBA,(by have:=HSZ.out;show _<=_;simp;omega)⟩
    case measure=>simp[intOf];omega
  ·obtain rfl:k=len:=by omega
   gi_wp2
   go_end0
   exact⟨⟨_,rfl⟩,.inl ⟨pre,by rw[HP.out,List.take_of_length_le (by rw[HLE.out];exact Nat.le_refl _)],HJS.out⟩⟩
end
section
def Jl(x:Lot):Bool:=decide (13<x.q.length)||decide (13<x.c.length)||decide (13<x.u.length)||decide (40<x.id.length)||decide (40<x.inst.length)
def Zeo(xs:List Lot):Bool:=(decide (12<xs.length)&&decide (xs.length<999))||decide (1002<xs.length)||xs.any Jl
structure Lot.Max (x:Lot):Prop where
 id:x.id.length<=maxLen
 inst:x.inst.length<=maxLen
 q:x.q.length<=maxLen
 c:x.c.length<=maxLen
 u:x.u.length<=maxLen
theorem Yr(a:List UInt8)(w:World):Calls Tryz.prog 35 #[S a] w fun e w'=>e=.returned (.bool (decide (13<a.length)))/\w=w':=by
 unfold S;go_enter Tryz.func35,Tryz.ntmps35
 go_wp2_with fail
 go_ret
 refine⟨Qe ?_,rfl⟩;rw[Bool.eq_iff_iff];simp
 omega
theorem Zaw(x:Lot)(w:World):Calls Tryz.prog 34 #[Zat x] w fun e w'=>e=.returned (.bool (Jl x))/\Below w.1.size w w':=by
 have HB:=jq ((Below.refl w.1.size w).alloc (Nat.le_refl _) (.cells #[.string ⟨x.id.toArray⟩,.string ⟨x.inst.toArray⟩,.int .i64 x.acq,.int .i64 x.opn,.string ⟨x.q.toArray⟩,.string ⟨x.c.toArray⟩,.string ⟨x.u.toArray⟩] 50));have HQ:=jq (fun W=>Yr x.q W);have HC:=jq (fun W=>Yr x.c W);have HU:=jq (fun W=>Yr x.u W);have HG:=jq (show Jl x=(decide (13<x.q.length)||decide (13<x.c.length)||decide (13<x.u.length)||decide (40<x.id.length)||decide (40<x.inst.length)) from rfl);generalize Jl x=gr at*;unfold Zat S;unfold S at*
 by_cases h1:13<x.q.length
 ·rw[decide_eq_true h1] at HQ HG;go_enter Tryz.func34,Tryz.ntmps34
  go_wp2_with fail
  refine(HQ.out _).mono ?_;rintro e w1 ⟨rfl,rfl⟩;go_wp2_with fail
  go_ret
  exact⟨Qe (by rw[HG.out];simp),HB.out⟩
 ·rw[decide_eq_false h1] at HQ HG
  by_cases h2:13<x.c.length
  ·rw[decide_eq_true h2] at HC HG;go_enter Tryz.func34,Tryz.ntmps34
   go_wp2_with fail
   refine(HQ.out _).mono ?_;rintro e w1 ⟨rfl,rfl⟩;go_wp2_with fail
   refine(HC.out _).mono ?_;rintro e w1 ⟨rfl,rfl⟩;go_wp2_with fail
   go_ret
   exact⟨Qe (by rw[HG.out];simp),HB.out⟩
  ·rw[decide_eq_false h2] at HC HG
   by_cases h3:13<x.u.length
   ·rw[decide_eq_true h3] at HU HG;go_enter Tryz.func34,Tryz.ntmps34
    go_wp2_with fail
    refine(HQ.out _).mono ?_;rintro e w1 ⟨rfl,rfl⟩;go_wp2_with fail
    refine(HC.out _).mono ?_;rintro e w1 ⟨rfl,rfl⟩;go_wp2_with fail
    refine(HU.out _).mono ?_;rintro e w1 ⟨rfl,rfl⟩;go_wp2_with fail
    go_ret
    exact⟨Qe (by rw[HG.out];simp),HB.out⟩
   ·rw[decide_eq_false h3] at HU HG;clear h1 h2 h3
    by_cases h4:40<x.id.length
    ·rw[decide_eq_true h4] at HG;have h4':(40:Int)<(x.id.length:Int):=by omega
     clear h4;go_enter Tryz.func34,Tryz.ntmps34
     go_wp2_with fail
     refine(HQ.out _).mono ?_;rintro e w1 ⟨rfl,rfl⟩;go_wp2_with fail
     refine(HC.out _).mono ?_;rintro e w1 ⟨rfl,rfl⟩;go_wp2_with fail
     refine(HU.out _).mono ?_;rintro e w1 ⟨rfl,rfl⟩;go_wp2_with fail
     go_ret
     exact⟨Qe (by rw[HG.out];simp),HB.out⟩
    ·rw[decide_eq_false h4] at HG;have h4':¬(40:Int)<(x.id.length:Int):=by omega
     clear h4
     by_cases h5:40<x.inst.length
     ·rw[decide_eq_true h5] at HG;have h5':(40:Int)<(x.inst.length:Int):=by omega
      clear h5;go_enter Tryz.func34,Tryz.ntmps34
      go_wp2_with fail
      refine(HQ.out _).mono ?_;rintro e w1 ⟨rfl,rfl⟩;go_wp2_with fail
      refine(HC.out _).mono ?_;rintro e w1 ⟨rfl,rfl⟩;go_wp2_with fail
      refine(HU.out _).mono ?_;rintro e w1 ⟨rfl,rfl⟩;go_wp2_with fail
      go_ret
      exact⟨Qe (by rw[HG.out];simp),HB.out⟩
     ·rw[decide_eq_false h5] at HG;have h5':¬(40:Int)<(x.inst.length:Int):=by omega
      clear h5;go_enter Tryz.func34,Tryz.ntmps34
      go_wp2_with fail
      refine(HQ.out _).mono ?_;rintro e w1 ⟨rfl,rfl⟩;go_wp2_with fail
      refine(HC.out _).mono ?_;rintro e w1 ⟨rfl,rfl⟩;go_wp2_with fail
      refine(HU.out _).mono ?_;rintro e w1 ⟨rfl,rfl⟩;go_wp2_with fail
      go_ret
      exact⟨Qe (by rw[HG.out];simp;omega),HB.out⟩
theorem Zfq{p:Lot->Bool}{xs:List Lot}{k:Nat}{x:Lot}(h:xs[k]?=some x):(xs.take (k+1)).any p=((xs.take k).any p||p x):=by
 obtain⟨hk,rfl⟩:=List.getElem?_eq_some_iff.1 h
 rw[List.take_succ_eq_append_getElem hk,List.any_append];simp
theorem ZgK(A:Option Addr)(n c:Nat)(xs:List Lot)(w:World)(hs:YI w w.1.size A n xs)(hn:n<=9223372036854775807):Calls Tryz.prog 11 #[.slice A n c] w fun e w'=>e=.returned (.bool (Zeo xs))/\Below w.1.size w w':=by
 have HS:=jq hs;have hnx:=hs.1;have HG:=jq (show Zeo xs=((decide (12<n)&&decide (n<999))||decide (1002<n)||xs.any Jl) by rw[hnx];rfl);have HNX:=jq hnx;generalize Zeo xs=gr at*;clear hs hnx
 by_cases h1:12<n
 ·by_cases h2:n<999
  ·rw[decide_eq_true h1,decide_eq_true h2] at HG;have a1:(12:Int)<(n:Int):=by omega
   have a2:(n:Int)<999:=by omega
   clear h1 h2;go_enter Tryz.func11,Tryz.ntmps11
   go_wp2_with fail
   go_ret
   exact⟨Qe (by rw[HG.out];simp),Below.refl _ _⟩
  ·rw[decide_eq_true h1,decide_eq_false h2] at HG
   by_cases h3:1002<n
   ·rw[decide_eq_true h3] at HG;have a1:(12:Int)<(n:Int):=by omega
    have a2:¬(n:Int)<999:=by omega
    have a3:(1002:Int)<(n:Int):=by omega
    clear h1 h2 h3;go_enter Tryz.func11,Tryz.ntmps11
    go_wp2_with fail
    go_ret
    exact⟨Qe (by rw[HG.out];simp),Below.refl _ _⟩
   ·rw[decide_eq_false h3] at HG;have a1:(12:Int)<(n:Int):=by omega
    have a2:¬(n:Int)<999:=by omega
    have a3:¬(1002:Int)<(n:Int):=by omega
    clear h1 h2 h3;go_enter Tryz.func11,Tryz.ntmps11
    go_wp2_with fail
    go_loopw [3] (fun i wr=>∃k:Nat,k<=n/\i=.int .i64 k/\Hid ((xs.take k).any Jl=false)/\Hid (Below w.1.size w wr)) (fun i _=>n-(intOf i).toNat)
    case atStart=>exact⟨0,Nat.zero_le _,rfl,(show _=_ by simp),Below.refl _ _⟩
    case round=>
     obtain⟨k,hk,rfl,HAN,HBR⟩:=hrel
     by_cases hlt:k<n
     ·obtain⟨b,off,x,rfl,hb,hx,d0,d1,d2,d3,d4,d5,d6⟩:=(HS.out.here HBR.out).lot7 hlt
      have HAT:=jq (Zfq (p:=Jl) hx);have HMX:=jq (List.mem_of_getElem? hx);clear hx;have HGO:=jq (Zaw x wr);have HGX:=jq (show Jl x=true->xs.any Jl=true from fun h=>List.any_eq_true.2 ⟨x,HMX.out,h⟩);generalize Jl x=gx at*;unfold Zat S at HGO
      cases gx with
      |true=>
       go_wp2_with fail
       refine HGO.out.mono ?_;rintro e w1 ⟨rfl,hb1⟩;go_wp2_with fail
       go_ret
       exact⟨Qe (by have hg:=HGX.out;simp only[forall_const] at hg;rw[HG.out,hg];simp),HBR.out.trans (hb1.mono HBR.out.size)⟩
      |false=>
       go_wp2_with fail
       refine HGO.out.mono ?_;rintro e w1 ⟨rfl,hb1⟩;go_wp2_with fail
       go_roundw
       case rel=>exact⟨k+1,by omega,by go_num,(show _=_ by rw[HAT.out,HAN.out];rfl),HBR.out.trans (hb1.mono HBR.out.size)⟩
       case measure=>simp[intOf];omega
     ·have HTK:=jq (show xs.any Jl=false by have:=HAN.out;rwa [List.take_of_length_le (by have:=HNX.out;omega)] at this);go_wp2_with fail
      go_ret
      exact⟨Qe (by rw[HG.out,HTK.out];simp),HBR.out⟩
 ·rw[decide_eq_false h1] at HG;have h3:¬1002<n:=by omega
  rw[decide_eq_false h3] at HG;have a1:¬(12:Int)<(n:Int):=by omega
  have a3:¬(1002:Int)<(n:Int):=by omega
  clear h1 h3;go_enter Tryz.func11,Tryz.ntmps11
  go_wp2_with fail
  go_loopw [3] (fun i wr=>∃k:Nat,k<=n/\i=.int .i64 k/\Hid ((xs.take k).any Jl=false)/\Hid (Below w.1.size w wr)) (fun i _=>n-(intOf i).toNat)
  case atStart=>exact⟨0,Nat.zero_le _,rfl,(show _=_ by simp),Below.refl _ _⟩
  case round=>
   obtain⟨k,hk,rfl,HAN,HBR⟩:=hrel
   by_cases hlt:k<n
   ·obtain⟨b,off,x,rfl,hb,hx,d0,d1,d2,d3,d4,d5,d6⟩:=(HS.out.here HBR.out).lot7 hlt
    have HAT:=jq (Zfq (p:=Jl) hx);have HMX:=jq (List.mem_of_getElem? hx);clear hx;have HGO:=jq (Zaw x wr);have HGX:=jq (show Jl x=true->xs.any Jl=true from fun h=>List.any_eq_true.2 ⟨x,HMX.out,h⟩);generalize Jl x=gx at*;unfold Zat S at HGO
    cases gx with
    |true=>
     go_wp2_with fail
     refine HGO.out.mono ?_;rintro e w1 ⟨rfl,hb1⟩;go_wp2_with fail
     go_ret
     exact⟨Qe (by have hg:=HGX.out;simp only[forall_const] at hg;rw[HG.out,hg];simp),HBR.out.trans (hb1.mono HBR.out.size)⟩
    |false=>
     go_wp2_with fail
     refine HGO.out.mono ?_;rintro e w1 ⟨rfl,hb1⟩;go_wp2_with fail
     go_roundw
     case rel=>exact⟨k+1,by omega,by go_num,(show _=_ by rw[HAT.out,HAN.out];rfl),HBR.out.trans (hb1.mono HBR.out.size)⟩
     case measure=>simp[intOf];omega
   ·have HTK:=jq (show xs.any Jl=false by have:=HAN.out;rwa [List.take_of_length_le (by have:=HNX.out;omega)] at this);go_wp2_with fail
    go_ret
    exact⟨Qe (by rw[HG.out,HTK.out];simp),HBR.out⟩
end
section
def Lot.I(y:Lot):Prop:=(-9223372036854775808<=y.acq/\y.acq<=9223372036854775807)/\ -9223372036854775808<=y.opn/\y.opn<=9223372036854775807
theorem ZhX{xs:List Lot}(h:Zeo xs=false)(hi:∀y∈xs,y.I):xs.length<=1002/\∀y∈xs,y.Sz 40/\y.q.length<=13/\y.c.length<=13:=by
 unfold Zeo at h;simp only[Bool.or_eq_false_iff,decide_eq_false_iff_not] at h;refine⟨by omega,fun y hy=> ?_⟩
 have h1:Jl y=false:=by
  have:=h.2
  rw[List.any_eq_false] at this;simpa using this y hy
 unfold Jl at h1;simp only[Bool.or_eq_false_iff,decide_eq_false_iff_not] at h1;obtain⟨⟨a1,a2⟩,b1,b2⟩:=hi y hy
 obtain⟨⟨⟨⟨c1,c2⟩,c3⟩,c4⟩,c5⟩:=h1
 exact⟨⟨by omega,by omega,by omega,by omega,by omega,a1,a2,b1,b2⟩,by omega,by omega⟩
end
section
end
section
def Zjq(ls:List Lot)(id:List UInt8):Int:=Zb6 (fun x:Lot=>x.id==id) ls
theorem Zna(ls:List Lot)(id:List UInt8):decide (0<=Zjq ls id)=decide (id∈ls.map (·.id)):=by
 unfold Zjq;rw[JD,Bool.eq_iff_iff,List.any_eq_true,decide_eq_true_eq,List.mem_map];simp
end
section
theorem Zgn:Jz Tryz.prog 22 50 7 96:=VQ Tryz.underlying22 (by kernel_rfl) (by decide) (by decide)
def ZaD(x:Lot):Array Value:=#[.string ⟨x.id.toArray⟩,.string ⟨x.inst.toArray⟩,.int .i64 x.acq,.int .i64 x.opn,.string ⟨x.q.toArray⟩,.string ⟨x.c.toArray⟩,.string ⟨x.u.toArray⟩]
theorem ZlZ(x:Lot):(L7 x).toArray=ZaD x:=rfl
end
section
attribute [local go_sem] Oper.semAt_some
theorem Zl0{W:World}{q:Nat}{y:Lot}(h:BlkB W q (ZaD y) 50):YI W W.1.size (some ⟨q,0,none⟩) 1 [y]:=by
 refine⟨rfl,fun _=>⟨q,0,rfl,h.lt,fun j z hj k u hk=> ?_⟩⟩
 cases j with
 |zero=>
  simp only[List.getElem?_cons_zero,Option.some.injEq] at hj;subst hj;rw[Nat.zero_mul,Nat.zero_add];exact h.cell k (by rw[<-ZlZ];simpa using hk)
 |succ j=>simp at hj
theorem Own.isCells{α:Type}{enc:α->List Value}{k base:Nat}{e:TypeId}{w:World}{v:Value}{xs:List α}(h:Own enc k e w base v xs)(j:Nat)(o:Obj)(hj:some j=v.ownBlock)(ho:w.heap[j]?=some o):o.isCells=true:=by
 rcases h.2 with ⟨rfl,_⟩|⟨g,cap,cur,rfl,_,hg,_⟩
 ·simp[Value.ownBlock] at hj
 ·simp only[Value.ownBlock,Option.some.injEq] at hj;subst hj;rw[hg] at ho;injection ho with ho;rw[<-ho];rfl
def Ya{α:Type}{p:α->Prop}(l:List {z:α//p z}):List α:=l.map (fun z=>z.1)
theorem Zed{α:Type}{p:α->Prop}(l:List {z:α//p z})(x:{z:α//p z}):Ya (l++[x])=Ya l++[x.1]:=by unfold Ya;rw[List.map_append];rfl
theorem Zgo{α:Type}{p:α->Prop}(l:List {z:α//p z}):(Ya l).length=l.length:=List.length_map _
theorem ZjF(Bs Bi:Nat)(A:Option Addr)(len cap:Nat)(xs:List Lot)(i:List UInt8)(w:World)(hBs:Box w Bs 22 (.slice A len cap))(hBi:Box w Bi 9 (.string ⟨i.toArray⟩))(hs:YI w w.1.size A len xs)(hl:len<=1000000):
 Calls Tryz.prog 105 #[.slice none 0 0,.func (.func 88) #[] #[.pointer (some ⟨Bs,0,none⟩),.pointer (some ⟨Bi,0,none⟩)]] w (RetOwn L7 7 50 w.1.size w (Qf xs i)):=by
 have HPO:=jq (show RetOwn L7 7 50 w.1.size w (Qf xs i)=fun e w'=>∃A c,e=.returned (.slice A (Qf xs i).length c)/\Own L7 7 50 w' w.1.size (.slice A (Qf xs i).length c) (Qf xs i)/\Below w.1.size w w' from rfl);have hbA:Below w.1.size w (w.alloc (.cells #[.slice none 0 0] 22)):=(Below.refl _ _).alloc (Nat.le_refl _) _;have HSEQ:=jq (ZdE Fence.wide 4 trivial rfl (by omega) (fun b=>b<w.1.size) Bs Bi w.1.size A len cap xs i (w.alloc (.cells #[.slice none 0 0] 22)) (hBs.here hbA) (hBi.here hbA) hbA.size (hs.below hbA) hl (fun _ h=>h) hBi.lt);have HB0:=jq (Box.new w 22 (.slice none 0 0));have HBA:=jq hbA;have HLL:=jq (show(Qf xs i).length<=1000000 from Nat.le_trans (List.length_filter_le _ _) (by rw[<-hs.1];exact hl));generalize RetOwn L7 7 50 w.1.size w (Qf xs i)=post at*;have hsz:(w.alloc (.cells #[.slice none 0 0] 22)).heap.size=w.1.size+1:=by simp
 have HSZ:=jq hsz;clear hBs hBi hs hl hbA hsz;refine(callsIn_wide (n:=5)).1 ?_;refine callsIn_of_wp_marks Tryz.func105 rfl trivial ?_ rfl;simp only[Tryz.ntmps105,List.size_toArray,List.length_cons,List.length_nil,Nat.reduceAdd,Nat.reduceSub,Array.replicate_succ,Array.replicate_zero,List.push_toArray,List.append_toArray,List.nil_append,List.cons_append]
 gi_wp2_with fail
 generalize w.alloc _=W1 at*
 refine wpIn_rangeFunc_ownH (α:={z:Lot//z∈Qf xs i}) (F:=Fence.wide) (n:=5) rfl (by omega) (gf:=88) (lb:=#[.pointer (some ⟨Bs,0,none⟩),.pointer (some ⟨Bi,0,none⟩)]) rfl trivial (enters_of Tryz.func88 (by kernel_rfl) rfl)
  HSEQ.out (fun h k=>h.trans k) ?hKb (Below.refl _ _) (fun _=>rfl)
  (fun(pre:List {z:Lot//z∈Qf xs i}) W=>∃A1 c1,Box W w.1.size 22 (.slice A1 (Ya pre).length c1)/\Own L7 7 50 W w.1.size (.slice A1 (Ya pre).length c1) (Ya pre)/\Below w.1.size w W/\W1.1.size<=W.1.size) (fun _ _ _=>False)
  (fun pre W W' row ⟨A1,c1,h1,h2,h3,h4⟩ hg hr=>⟨A1,c1,h1.turned hg hr,h2.turned hg hr,Qy h3 hg h3.size (fun g e=>by have:=(hr g e).1;have:=HSZ.out;omega),Nat.le_trans h4 hg.size⟩)
  (fun _ _ _ _ _ h _ _=>h) ⟨none,0,HB0.out,Own.nil,HBA.out,Nat.le_refl _⟩
  (fun x a' W=>∃Bx,w.1.size<Bx/\BlkB W Bx (ZaD x.1) 50/\a'={tmps:=#[.slice none 0 0,.func (.func 88) #[] #[.pointer (some ⟨Bs,0,none⟩),.pointer (some ⟨Bi,0,none⟩)],.pointer (some ⟨w.1.size,0,none⟩),undef,.slice none 0 0,.pointer (some ⟨Bx,0,none⟩),.func (.func 88) #[] #[.pointer (some ⟨Bs,0,none⟩),.pointer (some ⟨Bi,0,none⟩)],Zat x.1,undef,undef,undef,undef,undef],defers:=[]})
  (fun x a' _ W W' row ⟨Bx,h1,h2,h3⟩ hg hr=>⟨Bx,h1,(hg.block Bx h2.lt (fun e=>by
    obtain⟨_,o,ho,hc⟩:=hr _ e.symm
    unfold BlkB at h2;rw[h2] at ho;injection ho with ho;rw[<-ho] at hc
    cases hc)).trans h2,h3⟩) ?assign ?body ?done ?stop
 case hKb=>
  intro W l o o' hl _ _ _;exact KeepS.put (fun e=>by have:=HSZ.out;omega) _
 case stop=>intro D c pre W _ _ h;exact h.elim
 case assign=>
  rintro lr pre x W K ⟨A1,c1,hb,ho,hbl,hsz⟩ hK
  dsimp only[Zat,S]
  gi_wp2
  refine hK _ _ ((KeepsOthers.alloc _ _).from _) (KeepS.below ((Below.refl _ W).alloc (Nat.le_refl _) _)) ⟨A1,c1,hb.alloc _,ho.alloc _,hbl.alloc hbl.size _,by simp;omega⟩ ⟨W.1.size,by have:=HSZ.out;omega,heap_alloc_new W _,rfl⟩
 case body=>
  rintro lr pre x a' W hlr ⟨rr,hrr⟩ ⟨A1,c1,hb,ho,hbl,hsz⟩ ⟨Bx,hBx,bX,rfl⟩ hlen;have HSN:=jq (Zed pre x);have hle:(Ya pre).length<=1000000:=by rw[Zgo];have:=HLL.out;omega
  generalize Ya pre=l at*;obtain⟨y,hy⟩:=x
  have q0:=bX.cell 0 rfl;have q1:=bX.cell 1 rfl;have q2:=bX.cell 2 rfl;have q3:=bX.cell 3 rfl;have q4:=bX.cell 4 rfl;have q5:=bX.cell 5 rfl;have q6:=bX.cell 6 rfl;have cb:=hb.cell;have HBX:=jq hb;have HO:=jq ho;have HBL:=jq hbl;have HBXX:=jq bX;have HSZW:=jq hsz;have HOA:=jq (ho.alloc (.cells #[.string ⟨y.id.toArray⟩,.string ⟨y.inst.toArray⟩,.int .i64 y.acq,.int .i64 y.opn,.string ⟨y.q.toArray⟩,.string ⟨y.c.toArray⟩,.string ⟨y.u.toArray⟩] 50));have HSL:=jq (Zl0 (y:=y) (show BlkB (W.alloc (.cells #[.string ⟨y.id.toArray⟩,.string ⟨y.inst.toArray⟩,.int .i64 y.acq,.int .i64 y.opn,.string ⟨y.q.toArray⟩,.string ⟨y.c.toArray⟩,.string ⟨y.u.toArray⟩] 50)) W.1.size (ZaD y) 50 from heap_alloc_new W _));have HBA2:=jq (hb.alloc (.cells #[.string ⟨y.id.toArray⟩,.string ⟨y.inst.toArray⟩,.int .i64 y.acq,.int .i64 y.opn,.string ⟨y.q.toArray⟩,.string ⟨y.c.toArray⟩,.string ⟨y.u.toArray⟩] 50));have HBB:=jq (hbl.alloc hbl.size (.cells #[.string ⟨y.id.toArray⟩,.string ⟨y.inst.toArray⟩,.int .i64 y.acq,.int .i64 y.opn,.string ⟨y.q.toArray⟩,.string ⟨y.c.toArray⟩,.string ⟨y.u.toArray⟩] 50));have HLE:=jq (show l.length+1<=100000000000 by omega);have HGA:=jq (World.grownBy_alloc W (.cells #[.string ⟨y.id.toArray⟩,.string ⟨y.inst.toArray⟩,.int .i64 y.acq,.int .i64 y.opn,.string ⟨y.q.toArray⟩,.string ⟨y.c.toArray⟩,.string ⟨y.u.toArray⟩] 50) none);have hlt:w.1.size<W.1.size:=hb.lt;clear hb ho hbl bX hsz hrr hle hlen
  gi_wp2_with (gi_at_builtin;refine Zej _ rfl (.tmp 8) (.tmp 10) _ rfl Zgn Zbt ZhV (base:=w.1.size) (.slice A1 l.length c1) l rfl HOA.out _ _ 1 1 [y] rfl HSL.out HLE.out HBB.out.size ?_;intro A2 c2 w2 ho2 hg2 hat2;have hb2:=HBA2.out.grown hg2 (HOA.out.neBox HBA2.out (by decide));have cb2:=hb2.cell;have fb2:=hb2.frozen)
  have hown:∀g,(Value.slice A1 l.length c1).ownBlock=some g->w.1.size<=g/\g≠w.1.size:=fun g e=>by
   obtain⟨A',c',hv,_,_,_,h5⟩:=HOA.out.form
   exact⟨(h5 g e).2.1,fun e2=>HOA.out.neBox HBA2.out (by decide) (by rw[e,e2])⟩
  refine⟨?_,?_,A2,c2,?_,?_,?_,?_⟩
  ·exact((KeepsOthers.alloc _ _).trans ((KeepsOthers.of_grownBy hg2 (fun j o e ho=>HOA.out.isCells j o e.symm ho)).trans (KeepsOthers.setCell _ _ _))).from _
  ·exact(KeepS.below ((Below.refl _ W).alloc (Nat.le_refl _) _)).trans ((KeepS.grown hg2 (fun r e h=>by have:=(hown r e).1;omega)).trans (KeepS.set (S:=fun b=>b<w.1.size) (p:=⟨w.1.size,0,none⟩) (Nat.lt_irrefl w.1.size) _))
  ·rw[HSN.out,List.length_append];exact hb2.set_ _
  ·rw[HSN.out,List.length_append];exact ho2.far (fun h=>ho2.neBox hb2 (by decide) h.symm) _
  ·exact(Qy HBB.out hg2 HBB.out.size (fun g e=>(hown g e).1)).setCell (p:=⟨w.1.size,0,none⟩) (Nat.le_refl _) _
  ·have:=hg2.size;have:=HSZW.out;simp at *; omega
 case done=>
  rintro D ys W hD hS ⟨A1,c1,hb,ho,hbl,hsz⟩ hK;have cb:=hb.cell;have HYS:=jq (show Ya ys=Qf xs i from hS);have HO:=jq ho;have HBL:=jq hbl;rw[HYS.out] at cb HO;clear ho hbl hb hS
  gi_wp2
  refine⟨by simp,.inl ⟨_,_,rfl,run_takeDeferred hK,?_⟩⟩;refine⟨_,results_tmp rfl _ _ _,?_⟩;rw[HPO.out];have hD':=HSZ.out;exact⟨A1,c1,rfl,HO.out.turned (grownBy_putObj' W D (.deferred none)) (B:=w.1.size) (fun r e=>by cases e;exact⟨by omega,_,hK,rfl⟩),HBL.out.grown (grownBy_putObj' W D (.deferred none)) HBL.out.size (fun r e=>by cases e;omega)⟩
theorem Zgp(Bs Bi:Nat)(A:Option Addr)(len cap:Nat)(xs:List Lot)(i:List UInt8)(w:World)(hBs:Box w Bs 22 (.slice A len cap))(hBi:Box w Bi 9 (.string ⟨i.toArray⟩))(hs:YI w w.1.size A len xs)(hl:len<=1000000):
 Calls Tryz.prog 61 #[.func (.func 88) #[] #[.pointer (some ⟨Bs,0,none⟩),.pointer (some ⟨Bi,0,none⟩)]] w (RetOwn L7 7 50 w.1.size w (Qf xs i)):=by
 have HPO:=jq (show RetOwn L7 7 50 w.1.size w (Qf xs i)=fun e w'=>∃A c,e=.returned (.slice A (Qf xs i).length c)/\Own L7 7 50 w' w.1.size (.slice A (Qf xs i).length c) (Qf xs i)/\Below w.1.size w w' from rfl);have HA:=jq (ZjF Bs Bi A len cap xs i w hBs hBi hs hl);rw[HPO.out] at HA;generalize RetOwn L7 7 50 w.1.size w (Qf xs i)=post at*;clear hBs hBi hs hl;go_enter Tryz.func61,Tryz.ntmps61
 go_wp2_with fail
 refine HA.out.mono ?_;rintro e w1 ⟨A1,c1,rfl,ho,hb⟩;have HO:=jq ho;clear ho;go_wp2_with fail
 first|go_ret|skip
 rw[HPO.out];exact⟨A1,c1,rfl,HO.out,hb⟩
theorem ZjG(A:Option Addr)(n c:Nat)(xs:List Lot)(i:List UInt8)(w:World)(hs:YI w w.1.size A n xs)(hl:n<=1000000):
 Calls Tryz.prog 22 #[.slice A n c,S i] w (RetOwn L7 7 50 w.1.size w (Qf xs i)):=by
 have HPO:=jq (show RetOwn L7 7 50 w.1.size w (Qf xs i)=fun e w'=>∃A c,e=.returned (.slice A (Qf xs i).length c)/\Own L7 7 50 w' w.1.size (.slice A (Qf xs i).length c) (Qf xs i)/\Below w.1.size w w' from rfl);have hb0:Below w.1.size w ((w.alloc (.cells #[.slice A n c] 22)).alloc (.cells #[.string ⟨i.toArray⟩] 9)):=((Below.refl _ _).alloc (Nat.le_refl _) _).alloc (by simp) _;have HLO:=jq (ZhW A n c i w);have HCO:=jq (Zgp w.1.size (w.1.size+1) A n c xs i ((w.alloc (.cells #[.slice A n c] 22)).alloc (.cells #[.string ⟨i.toArray⟩] 9)) ((Box.new w _ _).alloc _) (by have:=Box.new (w.alloc (.cells #[.slice A n c] 22)) 9 (.string ⟨i.toArray⟩);simpa using this) ((hs.below hb0).more hb0.size) hl);have HB0:=jq hb0;generalize RetOwn L7 7 50 w.1.size w (Qf xs i)=post at*;clear hs hl hb0;unfold S at*
 unfold RetOwn at HCO;go_enter Tryz.func22,Tryz.ntmps22
 go_wp2_with fail
 refine HLO.out.mono ?_;rintro e w1 ⟨rfl,rfl⟩;go_wp2_with fail
 refine HCO.out.mono ?_;rintro e w2 ⟨A1,c1,rfl,ho,hb⟩;have HO:=jq ho;clear ho;go_wp2_with fail
 first|go_ret|skip
 rw[HPO.out];exact⟨A1,c1,rfl,HO.out.base_ HB0.out.size,HB0.out.trans (hb.mono HB0.out.size)⟩
end
end Go.Proofs.YtkddgeclncafoaaGreatDoor
