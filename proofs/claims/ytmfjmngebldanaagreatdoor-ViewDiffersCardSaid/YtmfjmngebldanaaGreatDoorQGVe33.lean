/- Vlt, Vl1. -/
import Derived.Test.YtmfjmngebldanaaGreatDoorQGVe28
import Derived.Test.YtmfjmngebldanaaGreatDoorQGVe43
set_option maxRecDepth 100000
set_option maxHeartbeats 8000000
namespace Go.Proofs.YtmfjmngebldanaaGreatDoor
open Go.Lib renaming hid→jq
open Go.RowKit Go.Shelf
section
attribute [local go_sem] Oper.semAt_some
attribute [local go_sem ↓] Ql Qz
theorem ZmC(A:Option Addr)(n c:Nat)(w:World):
 Calls Tryz.prog 56 #[.slice A n c] w fun e w'=>e=.returned (.func (.func 84) #[] #[.pointer (some ⟨w.1.size,0,none⟩)])/\w'=w.alloc (.cells #[.slice A n c] 22):=by
 go_enter Tryz.func56,Tryz.ntmps56
 go_wp2
 go_ret
 exact⟨rfl,rfl⟩
theorem Zgz(A:Option Addr)(n c:Nat)(w:World):
 Calls Tryz.prog 28 #[.slice A n c] w fun e w'=>e=.returned (.func (.func 55) #[] #[.pointer (some ⟨w.1.size,0,none⟩)])/\w'=w.alloc (.cells #[.slice A n c] 22):=by
 go_enter Tryz.func28,Tryz.ntmps28
 go_wp2
 go_ret
 exact⟨rfl,rfl⟩
def jm:Nat->Int
 |0=> -1
 |q+1=>q
theorem Zhx(m:Nat):(m:Int)-1=jm m:=by cases m<;>simp[jm]
abbrev AtE(xs:List Fx):={z:Nat×Fx//xs[z.1]?=some z.2}
theorem Zk4{xs:List Fx}{q:Nat}{x:Fx}(h:xs[q]?=some x):xs.reverse.take (xs.length-q)=xs.reverse.take (xs.length-(q+1))++[x]:=by
 obtain⟨hq,rfl⟩:=List.getElem?_eq_some_iff.1 h
 rw[show xs.length-q=xs.length-(q+1)+1 by omega,List.take_succ_eq_append_getElem (by simp;omega),List.getElem_reverse]
 congr 2
 congr 1
 omega
theorem Zk5(F:Fence)(n:Nat)(hF:F.fn 84)(hro:F.round=none)(hn:1<=n)(E:Nat->Prop)(T:TypeId)(M Bs n₀:Nat)(A:Option Addr)(len cap:Nat)(xs:List Fx)(w:World)
 (hBs:Box w Bs 22 (.slice A len cap)) (hn₀:n₀<=w.1.size) (hs:Fxs w n₀ A len xs) (hl:len<=1000000) (hE0:∀b,b<n₀->¬E b) (hEs:¬E Bs) (hT:22≠T) (hM:n₀<=M):
 ZmB F n Tryz.prog 84 #[.pointer (some ⟨Bs,0,none⟩)] (fun z:AtE xs=>#[.int .i64 (z.1.1:Nat),.agg (Qb z.1.2.1 z.1.2.2)]) E T M (fun ys=>ys.map (fun z=>z.1.2)=xs.reverse) xs.length w:=fun l J Jx W hW hlw hlt hJ hJx hY h0=>by
 have HBS:=jq (hBs.here hW);have HS:=jq (hs.sl.below (hW.mono hn₀));have cs:=HBS.out.cell;have HJ:=jq hJ;have HY:=jq hY;have H0:=jq h0;have HN0:=jq (show n₀<=W.1.size by have:=hW.size;omega)
 have HEX:=jq (show ∀b,b<n₀->¬(E b\/b=l) from fun b hb e=>by
  rcases e with e|e
  ·exact hE0 b hb e
  ·omega)
 have HES:=jq (show ¬(E Bs\/Bs=l) from fun e=>by
  rcases e with e|e
  ·exact hEs e
  ·have:=hBs.lt;omega)
 have HLE:=jq hs.len;have HT:=jq hT;have HM:=jq hM;have hz:(len:Int)-1=jm len:=Zhx len;clear hBs hs hW hJ hJx hY h0 hn₀ hE0 hEs hT hM hlw hlt;refine callsIn_of_wp Tryz.func84 rfl hF ?_ hro;simp only[Tryz.ntmps84,List.size_toArray,List.length_cons,List.length_nil,Nat.reduceAdd,Nat.reduceSub,Array.replicate_succ,Array.replicate_zero,List.push_toArray,List.append_toArray,List.nil_append,List.cons_append]
 gi_wp2
 gi_loopw [3] (fun j wr=>∃(m:Nat) (pre:List (AtE xs)),m<=len/\j=.int .i64 (jm m)/\Hid (pre.map (fun z=>z.1.2)=xs.reverse.take (xs.length-m))/\Hid (J pre wr)/\Hid (Sl QF 21 wr n₀ A len xs)/\Hid (Box wr Bs 22 (.slice A len cap))/\Hid (W.1.size<=wr.1.size)) (fun j _=>(intOf j+1).toNat)
 case atStart=>exact⟨len,[],Nat.le_refl _,by first|rfl|rw[hz],(show _=_ by rw[HLE.out,Nat.sub_self];rfl),H0,HS,HBS,Nat.le_refl _⟩
 case round=>
  clear HS HBS H0 cs hz;obtain⟨m,pre,hm,rfl,HP,HJS,HS,HBS,HSZ⟩:=hrel
  have cs:=HBS.out.cell
  cases m with
  |zero=>
   have hj:jm 0= -1:=rfl;rw[hj];have HFP:=jq (show pre.map (fun z=>z.1.2)=xs.reverse by have h:=HP.out;rw[Nat.sub_zero,List.take_of_length_le (by simp)] at h;exact h)
   gi_wp2
   go_end0
   exact⟨⟨_,rfl⟩,.inl ⟨pre,HFP.out,HJS.out⟩⟩
  |succ q=>
   have hj:jm (q+1)=q:=rfl;rw[hj];obtain⟨b,off,x,rfl,hb,hx,hr⟩:=HS.out.at_ (i:=q) (by omega)
   obtain⟨f,v⟩:=x
   have hld:=Qi (show wr.rangeAt b (off+q*21) (ftA f v) from fun j u hu=>hr j u hu);have HX:=jq hx
   obtain⟨fn,tmps,assign,body,hy,hR⟩:=HY.out pre ⟨(q,(f,v)),hx⟩ wr HJS.out (by
    have h1:=congrArg List.length HP.out;rw[List.length_map,List.length_take,List.length_reverse] at h1;have:=HLE.out
    omega)
   dsimp only at hy
   have HR:=jq hR;have i1:(0:Int)<=(q:Int):=by omega
   have i2:(q:Int)<(len:Int):=by omega
   have hz:(q:Int)-1=jm q:=Zhx q;clear hR hr
   gi_wp2
   refine HR.out.mono ?_;rintro e W3 (⟨rfl,hJ3,hk3⟩|⟨rfl,hJx3,hk3⟩)
   ·have HJ3:=jq hJ3;have HK3:=jq hk3;clear hJ3 hk3
    gi_wp2
    go_roundw
    case rel=>
     refine⟨q,pre++[⟨(q,(f,v)),HX.out⟩],by omega,by first|rfl|rw[hz],(show _=_ from ?_),HJ3,HK3.out.sl HS.out HM.out (by have:=HSZ.out;have:=HN0.out;omega) HEX.out,HK3.out.box HBS.out HES.out HT.out,(by have:=HK3.out.size;have:=HSZ.out;show _<=_;omega)⟩;rw[List.map_append,HP.out,Zk4 HX.out];rfl
    case measure=>simp only[intOf];rw[<-Zhx];omega
   ·have HJ3:=jq hJx3;clear hJx3
    gi_wp2
    refine bodyPost_ret (results_none rfl _ _ _) rfl ?_;exact⟨⟨_,rfl⟩,.inr ⟨_,HJ3.out⟩⟩
end
section
attribute [local go_sem] Oper.semAt_some
attribute [local go_sem ↓] Ql Qz
theorem SeenB.kept{w w':World}{b n:Nat}{l:List (List UInt8)}{row:Option Nat}(h:SeenB w b n l)(hg:w.grownBy w' row)(hne:some b≠row):SeenB w' b n l:=by
 obtain⟨D,⟨es,clock,h1,h2⟩,h3⟩:=h
 exact⟨D,⟨es,clock,(hg.block b (Array.getElem?_eq_some_iff.1 h1).1 hne).trans h1,h2⟩,h3⟩
theorem SeenB.kpx{w w':World}{b n:Nat}{l:List (List UInt8)}{E:Nat->Prop}{T:TypeId}{M:Nat}(h:SeenB w b n l)(hk:KpX E T M w w')(he:¬E b):SeenB w' b n l:=by
 obtain⟨D,⟨es,clock,h1,h2⟩,h3⟩:=h
 exact⟨D,⟨es,clock,hk.obj h1 he rfl,h2⟩,h3⟩
theorem SeenB.isMap{w:World}{b n:Nat}{l:List (List UInt8)}(h:SeenB w b n l):∃o:Obj,w.heap[b]?=some o/\o.isCells=false:=by
 obtain⟨D,⟨es,clock,h1,h2⟩,h3⟩:=h
 exact⟨_,h1,rfl⟩
theorem XR{W W':World}{p:Nat}{cs:Array Value}{T:TypeId}{row:Option Nat}{B:Nat}(h:BlkB W p cs T)(hg:W.grownBy W' row)(hr:∀r,row=some r->B<=r/\∃o:Obj,W.heap[r]?=some o/\o.isCells=false):BlkB W' p cs T:=by
 refine(hg.block p h.lt (fun e=> ?_)).trans h;obtain⟨_,o,ho,hc⟩:=hr _ e.symm
 unfold BlkB at h;rw[h] at ho;injection ho with ho;rw[<-ho] at hc
 cases hc
abbrev InE(xs:List Fx):={x:Fx//x∈xs}
def Yw{xs:List Fx}(l:List (AtE xs)):List Fct:=l.map fun z=>z.1.2.1
def Xu{xs:List Fx}(l:List (InE xs)):List Fct:=l.map fun z=>z.1.1
theorem VO{xs:List Fx}(l:List (AtE xs))(z:AtE xs):Yw (l++[z])=Yw l++[z.1.2.1]:=by unfold Yw;rw[List.map_append];rfl
theorem XU{xs:List Fx}(l:List (InE xs))(z:InE xs):Xu (l++[z])=Xu l++[z.1.1]:=by unfold Xu;rw[List.map_append];rfl
theorem ZiC{xs:List Fx}{pre:List (AtE xs)}{z:AtE xs}{o:List (InE xs)}(h:Xu o=Xx [] (Yw pre))(hm:z.1.2.1.key∈(Yw pre).map (·.key)):Xu o=Xx [] (Yw (pre++[z])):=by
 rw[VO,VH,if_pos (.inr hm),List.append_nil,h]
theorem Zk6{xs:List Fx}{pre:List (AtE xs)}{z:AtE xs}{o:List (InE xs)}{y:InE xs}(h:Xu o=Xx [] (Yw pre))(hm:z.1.2.1.key ∉ (Yw pre).map (·.key))(hy:y.1=z.1.2):Xu (o++[y])=Xx [] (Yw (pre++[z])):=by
 rw[VO,VH,if_neg (by simpa using hm),XU,h,hy]
theorem JF:∀(l:List Fct) (seen:List (List UInt8)),(Xx seen l).length<=l.length
 |[],_=>by simp[Xx]
 |f::l,seen=>by
  unfold Xx
  split
  ·exact Nat.le_succ_of_le (JF l seen)
  ·simp only[List.length_cons];exact Nat.succ_le_succ (JF l _)
theorem Zfv{n m l l':Nat}{P:Program}{f:FuncId}{tmps:Array Value}{assign body:Code}{w:World}{R:Ending->World->Prop}(h:RoundIn Fence.wide n P l f tmps assign body w R):RoundIn (Fence.wide.inRound l') m P l f tmps assign body w R:=
 ⟨trivial,fun c cs _=>h.2 c cs (room_wide _)⟩
structure LtI {xs:List Fx} (l y0 p sb:Nat) (J:List (InE xs)->World->Prop) (sz:Nat) (pre:List (AtE xs)) (W:World):Prop where
 ex:∃(o:List (InE xs)) (seen:List (List UInt8)) (k:Nat),k<=pre.length/\Xu o=Xx [] (Yw pre)/\(∀s,s∈seen↔s∈(Yw pre).map (·.key))/\J o W/\SeenB W p k seen
 y:Box W y0 44 (.func (.yield l) #[] #[])
 s:Box W sb 79 (.map (some p))
 le:sz<=W.1.size
theorem LtI.own{xs:List Fx}{l y0 p sb:Nat}{J:List (InE xs)->World->Prop}{sz B:Nat}(hJ:OwnFrom B J)(hB:B<=sz)(hp:p<sz):OwnFrom sz (LtI l y0 p sb J sz):=by
 rintro pre W W' row ⟨⟨o,seen,k,hk,h1,h2,h3,h4⟩,hy,hs,hle⟩ hg hr;refine⟨⟨o,seen,k,hk,h1,h2,hJ _ _ _ _ h3 hg (fun r e=>⟨Nat.le_trans hB (hr r e).1,(hr r e).2⟩),h4.kept hg (fun e=>by have:=(hr p e.symm).1;omega)⟩,hy.turned hg hr,hs.turned hg hr,Nat.le_trans hle hg.size⟩
theorem Zfw(n:Nat)(hn:3<=n)(E:Nat->Prop)(T:TypeId)(M Bl n₀:Nat)(A:Option Addr)(len cap:Nat)(xs:List Fx)(w:World)
 (hBl:Box w Bl 22 (.slice A len cap)) (hn₀:n₀<=w.1.size) (hs:Fxs w n₀ A len xs) (hl:len<=1000000) (hEw:∀b,E b->b<w.1.size) (hE0:∀b,b<n₀->¬E b) (hT:22≠T) (hT2:44≠T) (hT3:79≠T) (hM:n₀<=M):
 ZmB Fence.wide n Tryz.prog 55 #[.pointer (some ⟨Bl,0,none⟩)] (fun z:InE xs=>#[.agg (Qb z.1.1 z.1.2)]) E T M (fun ys=>Xu ys=Jb (xs.map (·.1))) xs.length w:=fun l J Jx W hW hlw hlt hJ hJx hY h0=>by
 have hwW:=hW.size;have hBL:=hBl.here hW;have cs:=(((hBL.alloc (.cells #[.func (.yield l) #[] #[]] 44)).alloc (.map #[] 0)).alloc (.cells #[.map (some (W.1.size+1))] 79)).cell;have HJ:=jq hJ;have HJX:=jq hJx;have HY:=jq hY;have HLE:=jq hs.len;have HKY:=jq (fun(x:Fx) (hx:x∈xs)=>show x.1.key.length<=maxLen by have:=(hs.all x hx).sz.key;unfold maxLen;omega);have hJa:=fun W' (o:Obj) (h:J [] W')=>OwnFrom.alloc hJ o h
 have h04:=hJa _ (.cells #[.slice A len cap] 22) (hJa _ (.cells #[.map (some (W.1.size+1))] 79) (hJa _ (.map #[] 0) (hJa _ (.cells #[.func (.yield l) #[] #[]] 44) h0)));have hy4:=(((Box.new W 44 (.func (.yield l) #[] #[])).alloc (.map #[] 0)).alloc (.cells #[.map (some (W.1.size+1))] 79)).alloc (.cells #[.slice A len cap] 22);have hm4:=((Zdh (W.alloc (.cells #[.func (.yield l) #[] #[]] 44))).alloc (.cells #[.map (some (W.1.size+1))] 79)).alloc (.cells #[.slice A len cap] 22);have hs4:=(Box.new ((W.alloc (.cells #[.func (.yield l) #[] #[]] 44)).alloc (.map #[] 0)) 79 (.map (some (W.1.size+1)))).alloc (.cells #[.slice A len cap] 22);have hb4:=Box.new (((W.alloc (.cells #[.func (.yield l) #[] #[]] 44)).alloc (.map #[] 0)).alloc (.cells #[.map (some (W.1.size+1))] 79)) 22 (.slice A len cap);have hbl4:Below W.1.size W ((((W.alloc (.cells #[.func (.yield l) #[] #[]] 44)).alloc (.map #[] 0)).alloc (.cells #[.map (some (W.1.size+1))] 79)).alloc (.cells #[.slice A len cap] 22)):=((((Below.refl _ W).alloc (Nat.le_refl _) _).alloc (by simp) _).alloc (by simp;omega) _).alloc (by simp;omega) _;have hsz4:((((W.alloc (.cells #[.func (.yield l) #[] #[]] 44)).alloc (.map #[] 0)).alloc (.cells #[.map (some (W.1.size+1))] 79)).alloc (.cells #[.slice A len cap] 22)).heap.size=W.1.size+4:=by simp
 have hfx4:=(hs.below (hW.mono hn₀)).below (hbl4.mono (by omega:n₀<=W.1.size));have hmm:= @run_makeMap Tryz.prog;simp only[World.size_alloc] at hm4 hs4 hb4;clear h0 hJa hBl hBL;refine callsIn_of_wp_marks Tryz.func55 rfl trivial ?_ rfl;simp only[Tryz.ntmps55,List.size_toArray,List.length_cons,List.length_nil,Nat.reduceAdd,Nat.reduceSub,Array.replicate_succ,Array.replicate_zero,List.push_toArray,List.append_toArray,List.nil_append,List.cons_append]
 gi_wp2_with (refine⟨trivial,fun _=>by omega,(callsIn_wide.2 (ZmC A len cap _)).mono ?_⟩;rintro e w4 ⟨rfl,rfl⟩)
 generalize ((((W.alloc (.cells #[.func (.yield l) #[] #[]] 44)).alloc (.map #[] 0)).alloc (.cells #[.map (some (W.1.size+1))] 79)).alloc (.cells #[.slice A len cap] 22))=W4 at*;clear cs hmm;generalize hb:W.1.size+1+1+1=bw at*;generalize hsb:W.1.size+1+1=sb at*;generalize hp:W.1.size+1=p at*;generalize hy:W.1.size=y0 at*;have HY4:=jq hy4;have HS4:=jq hs4;have HFX4:=jq hfx4;have HBK:=jq (show W4.1.size=y0+4/\p=y0+1/\sb=y0+2/\l<y0 from⟨hsz4,hp.symm,by omega,hlt⟩)
 have HEP:=jq (show ∀b,(E b\/b=l)\/b=p->b<y0+2 from fun b h=>by
  rcases h with (h|h)|h
  ·have:=hEw b h;omega
  ·omega
  ·omega)
 have HNE:=jq (show ¬((E y0\/y0=l)\/y0=p)/\¬((E sb\/sb=l)\/sb=p)/\¬(E p\/p=l) from⟨fun h=>by
  rcases h with (h|h)|h
  ·have:=hEw _ h;omega
  ·omega
  ·omega,fun h=>by
  rcases h with (h|h)|h
  ·have:=hEw _ h;omega
  ·omega
  ·omega,fun h=>by
  rcases h with h|h
  ·have:=hEw _ h;omega
  ·omega⟩)
 have HSEQ:=jq (Zk5 Fence.wide (n-1) trivial rfl (by omega) (fun b=>(E b\/b=l)\/b=p) T M bw n₀ A len cap xs W4 hb4 (by omega) hfx4 hl (fun b hb h=>by
  rcases h with (h|h)|h
  ·exact hE0 b hb h
  ·omega
  ·omega) (fun h=>by
  rcases h with (h|h)|h
  ·have:=hEw _ h;omega
  ·omega
  ·omega) hT hM)
 clear hY hs hW hJ hJx hsz4 hfx4 hb4 hE0 hEw hlw hlt hwW hn₀ hbl4 hy4 hs4
 refine Xa (α:=AtE xs) (F:=Fence.wide) (n:=n) rfl (by omega) (gf:=84) (lb:=#[.pointer (some ⟨bw,0,none⟩)]) rfl trivial (enters_of Tryz.func84 (by kernel_rfl) rfl)
  HSEQ.out (fun b h=>by have:=HEP.out b h;have:=HBK.out;omega) (Below.refl _ _) (fun _=>rfl)
  (LtI l y0 p sb J W4.1.size) (fun _ W'=>∃o,Jx o W') (LtI.own HJ.out (by have:=HBK.out;omega) (by have:=HBK.out;omega)) (fun _ _ _ _ ⟨o,h⟩ hg hr=>⟨o,HJX.out _ _ _ _ h hg (fun r e=>⟨by have:=(hr r e).1;have:=HBK.out;omega,(hr r e).2⟩)⟩)
  ⟨⟨[],[],0,Nat.le_refl _,rfl,fun s=>by simp[Yw],h04,hm4⟩,HY4.out,HS4.out,Nat.le_refl _⟩
  (fun pre x a' Wr=>LtI l y0 p sb J W4.1.size pre Wr/\∃Bx,W4.1.size<=Bx/\BlkB Wr Bx (Qb x.1.2.1 x.1.2.2) 43/\a'={tmps:=#[.func (.yield l) #[] #[],.pointer (some ⟨Bl,0,none⟩),.pointer (some ⟨y0,0,none⟩),.pointer (some ⟨sb,0,none⟩),undef,.pointer (some ⟨Bx,0,none⟩),.map (some p),.slice A len cap,.func (.func 84) #[] #[.pointer (some ⟨bw,0,none⟩)],.int .i64 (x.1.1:Nat),.agg (Qb x.1.2.1 x.1.2.2),undef,undef,undef,undef,undef,undef,undef,undef,undef,undef,undef],defers:=[]})
  (fun pre x a' _ Wr Wr' row ⟨hi,Bx,h1,h2,h3⟩ hg hr=>⟨LtI.own HJ.out (by have:=HBK.out;omega) (by have:=HBK.out;omega) _ _ _ _ hi hg hr,Bx,h1,XR h2 hg hr,h3⟩) ?assign ?body ?done ?stop
 case assign=>
  rintro lr pre x Wr K hI hK;obtain⟨⟨q,f,v⟩,hx⟩:=x
  have hst:=fun cs (hc:cs.size=21)=>QB Wr f v (cs:=cs) hc
  have HI:=jq hI;clear hI
  dsimp only
  gi_wp2
  exact hK _ _ (KpX.below ((Below.refl _ Wr).alloc (Nat.le_refl _) _)) ⟨OwnFrom.alloc (LtI.own HJ.out (by have:=HBK.out;omega) (by have:=HBK.out;omega)) _ HI.out,Wr.1.size,HI.out.le,heap_alloc_new Wr _,rfl⟩
 case body=>
  rintro lr pre x a' Wr ⟨⟨⟨o,seen,k,hk,ho,hs,hJo,hSB⟩,hyB,hsB,hle⟩,Bx,hBx,bX,rfl⟩ hlen;obtain⟨⟨q,f,v⟩,hx⟩:=x
  have hmem:(f,v)∈xs:=List.mem_of_getElem? hx;have csb:=hsB.cell;have q0:=bX.cell 0 (show(Qb f v)[0]?=some (.string ⟨f.key.toArray⟩) from rfl);have hlk:=hSB.look (t:=79) Tryz.underlying79 (s:=f.key) (HKY.out _ hmem);have HO:=jq ho;have HSS:=jq hs;have HSB:=jq hSB;have HYB:=jq hyB;have HSBX:=jq hsB;have HJO:=jq hJo;have HL:=jq hle;have HK:=jq hk;have HX:=jq hx
  by_cases hin:f.key∈seen
  ·rw[decide_eq_true hin] at hlk;have HIN:=jq ((hs _).1 hin);clear ho hs hSB hyB hsB hJo hle hk hlen hin bX
   gi_wp2
   refine⟨KpX.refl _,⟨o,seen,k,by rw[List.length_append];exact Nat.le_succ_of_le HK.out,ZiC HO.out HIN.out,fun s=> ?_,HJO.out,HSB.out⟩,HYB.out,HSBX.out,HL.out⟩;rw[HSS.out,VO,List.map_append,List.mem_append];exact⟨.inl,fun h=>h.elim id (fun h=>by rw[List.map_singleton,List.mem_singleton] at h;rw[h];exact HIN.out)⟩
  ·rw[decide_eq_false hin] at hlk;have HIN:=jq (show f.key ∉ (Yw pre).map (·.key) from fun h=>hin ((hs _).2 h));have hpl:=HBK.out;obtain⟨W2,hput,hM2,hg⟩:=hSB.put (t:=79) Tryz.underlying79 (by have:=hs;unfold maxLen;have:=HLE.out;omega) (s:=f.key) (HKY.out _ hmem)
   have hJ2:=HJ.out _ _ _ _ hJo hg (fun r e=>by cases e;exact⟨by omega,hSB.isMap⟩);have hy2:=hyB.grown hg (by intro e;injection e with e;omega);have hs2:=hsB.grown hg (by intro e;injection e with e;omega);have hX2:BlkB W2 Bx (Qb f v) 43:=(hg.block Bx bX.lt (by intro e;injection e with e;omega)).trans bX;have cy2:=hy2.cell;have hl2:=Qj hX2 (Qg f v)
   obtain⟨fn,tmps,assign,body,hyd,hR⟩:=HY.out o ⟨(f,v),hmem⟩ W2 hJ2 (by
    have h1:=congrArg List.length ho;have h2:=JF (Yw pre) [];unfold Xu at h1;rw[List.length_map] at h1;have h3:(Yw pre).length=pre.length:=by unfold Yw;rw[List.length_map]
    omega)
   dsimp only at hyd
   have HR:=jq hR;have HM2:=jq hM2;have HY2:=jq hy2;have HS2:=jq hs2;have HG:=jq hg;clear ho hs hSB hyB hsB hJo hle hk hlen hin bX hR hM2 hg hJ2 hX2 hy2 hs2 hpl
   gi_wp2
   refine⟨fun h=>(by cases h),(Zfv HR.out).mono ?_⟩;rintro e W5 (⟨rfl,hJ5,hk5⟩|⟨rfl,hJ5,hk5⟩)
   ·have HJ5:=jq hJ5;have HK5:=jq hk5;clear hJ5 hk5
    gi_wp2
    refine⟨(KpX.grown HG.out (fun r e=>by cases e;exact .inl (.inr rfl))).trans (HK5.out.more (fun b h=>.inl h)),⟨o++[⟨(f,v),hmem⟩],f.key::seen,k+1,by rw[List.length_append];exact Nat.succ_le_succ HK.out,Zk6 HO.out HIN.out rfl,fun s=> ?_,HJ5.out,HM2.out.kpx HK5.out HNE.out.2.2⟩,HK5.out.box HY2.out (fun h=>HNE.out.1 (.inl h)) hT2,HK5.out.box HS2.out (fun h=>HNE.out.2.1 (.inl h)) hT3,Nat.le_trans HL.out (Nat.le_trans HG.out.size HK5.out.size)⟩;rw[VO,List.map_append,List.mem_append,List.mem_cons,HSS.out,List.map_singleton,List.mem_singleton];exact or_comm
   ·have HJ5:=jq hJ5;have HK5:=jq hk5;clear hJ5 hk5
    gi_wp2
    exact⟨(KpX.grown HG.out (fun r e=>by cases e;exact .inl (.inr rfl))).trans (HK5.out.more (fun b h=>.inl h)),_,HJ5.out⟩
 case done=>
  rintro D ys W' hD hS ⟨⟨o,seen,k,hk,ho,hs,hJo,hSB⟩,hyB,hsB,hle⟩ hK;have HJO:=jq hJo
  have HO:=jq (show Xu o=Jb (xs.map (·.1)) by
   rw[ho];unfold Yw Jb;rw[show(fun z:AtE xs=>z.1.2.1)=(fun x:Fx=>x.1) ∘ (fun z=>z.1.2) from rfl,<-List.map_map,hS,List.map_reverse])
  clear ho hs hJo hSB hyB hsB hS hk
  gi_wp2
  refine⟨by simp,.inl ⟨_,_,rfl,run_takeDeferred hK,?_⟩⟩;refine⟨_,results_none rfl _ _ _,?_⟩;exact⟨⟨_,rfl⟩,.inl ⟨o,HO.out,HJ.out _ _ _ _ HJO.out (grownBy_putObj' W' D (.deferred none)) (fun r e=>by cases e;exact⟨by have:=HBK.out;omega,_,hK,rfl⟩)⟩⟩
 case stop=>
  rintro D pre W' hD ⟨o,hJo⟩ hK;have HJO:=jq hJo;clear hJo
  gi_wp2
  refine⟨by simp,.inl ⟨_,_,rfl,run_takeDeferred hK,?_⟩⟩;refine⟨_,results_none rfl _ _ _,?_⟩;exact⟨⟨_,rfl⟩,.inr ⟨o,HJX.out _ _ _ _ HJO.out (grownBy_putObj' W' D (.deferred none)) (fun r e=>by cases e;exact⟨by have:=HBK.out;omega,_,hK,rfl⟩)⟩⟩
end
end Go.Proofs.YtmfjmngebldanaaGreatDoor
