/- Sc, AL2, AL3. -/
import Derived.Test.YtmamnnaiogidaaaGreatDoorQGU17
import Derived.Test.YtmamnnaiogidaaaGreatDoorQGU22
import Derived.Test.YtmamnnaiogidaaaGreatDoorQGU23
import Derived.BigRegion
import Derived.Test.YtmamnnaiogidaaaGreatDoorShs
set_option maxRecDepth 20000
set_option maxHeartbeats 10000000
namespace Go.Proofs.YtmamnnaiogidaaaGreatDoor
open Go.Lib renaming hid→jq
open Go.RowKit Go.Shelf
section
theorem Zn3(a b:Int)(bl:Nat)(w:World)(h0:w.cell? ⟨bl,0,none⟩=some (.int .i64 a))(h1:w.cell? ⟨bl,1,none⟩=some (.int .i64 b)):Calls Tryz.prog 181 #[.slice (some ⟨bl,0,none⟩) 2 2] w fun e w'=>e=.returned (.int .i64 (if a≠0 then a else b))/\Below w.1.size w w':=by
 have HR:=jq (show ∀r:Int,(a≠0->r=a)->(a=0->r=b)->(if a≠0 then a else b)=r by
  intro r h1 h2
  by_cases h:a=0
  ·rw[if_neg (by simp[h]),h2 h]
  ·rw[if_pos h,h1 h])
 generalize (if a≠0 then a else b)=res at*;have HB:=jq (Below.refl w.1.size w);go_enter Tryz.func181,Tryz.ntmps181
 go_wp2_with fail
 go_loop [8] (fun i=>∃k:Nat,k<=2/\i=.int .i64 k/\Hid (1<=k->a=0)/\Hid (2<=k->b=0)) (fun i=>2-(intOf i).toNat)
 case atStart=>exact⟨0,by omega,rfl,fun h=>by omega,fun h=>by omega⟩
 case round=>
  obtain⟨k,hk,rfl,HA,HBB⟩:=hrel
  by_cases hlt:k<2
  ·obtain rfl|rfl:k=0\/k=1:=by omega
   ·by_cases ha:a=0
    ·have hx:(a !=0)=false:=by simp[ha]
     have HA0:=jq ha;clear ha HA HBB hk hlt
     go_wp2
     go_round
     case rel=>exact⟨1,by omega,by go_num,fun _=>HA0.out,fun h=>by omega⟩
     case measure=>simp[intOf]
    ·have hx:(a !=0)=true:=by simp[ha]
     have HE:=jq (HR.out a (fun _=>rfl) (fun h=>absurd h ha));clear ha HA HBB hk hlt
     go_wp2
     go_ret
     exact⟨Qf HE.out.symm,HB.out⟩
   ·have HA0:=jq (HA.out (by omega))
    by_cases hb:b=0
    ·have hx:(b !=0)=false:=by simp[hb]
     have HB0:=jq hb;clear hb HA HBB hk hlt
     go_wp2
     go_round
     case rel=>exact⟨2,by omega,by go_num,fun _=>HA0.out,fun _=>HB0.out⟩
     case measure=>simp[intOf]
    ·have hx:(b !=0)=true:=by simp[hb]
     have HE:=jq (HR.out b (fun h=>absurd HA0.out h) (fun _=>rfl));clear hb HA HBB hk hlt
     go_wp2
     go_ret
     exact⟨Qf HE.out.symm,HB.out⟩
  ·obtain rfl:k=2:=by omega
   have HE:=jq (HR.out 0 (fun h=>absurd (HA.out (by omega)) h) (fun _=>(HBB.out (by omega)).symm));clear HA HBB hk hlt
   go_wp2
   go_ret
   exact⟨Qf HE.out.symm,HB.out⟩
theorem Zn4(a b:Int)(w:World):Calls Tryz.prog 181 #[.slice (some ⟨w.1.size,0,none⟩) 2 2] (w.alloc (.cells #[.int .i64 a,.int .i64 b] 3)) fun e w'=>e=.returned (.int .i64 (if a≠0 then a else b))/\Below w.1.size w w':=by
 have hb:=heap_alloc_new w (.cells #[.int .i64 a,.int .i64 b] 3);refine(Zn3 a b w.1.size _ (cell_of_row _ _ 0 _ _ _ hb) (cell_of_row _ _ 1 _ _ _ hb)).mono ?_;rintro e w' ⟨he,h⟩;exact⟨he,((Below.refl w.1.size w).alloc (Nat.le_refl _) _).trans (h.mono (by simp))⟩
theorem Zlt(rs:List Int)(n R X:Nat)(i k:Nat)(hi:i<n)(hk:k<n)(_hn:n<=100000)(W:World)(hX:W.cell? ⟨X,0,none⟩=some (.slice (some ⟨R,0,none⟩) n n))(hR:∀j,j<n->W.cell? ⟨R,j,none⟩=some (.string ⟨(Qa (rs.getD j 0)).toArray⟩))(hl:∀j,(Qa (rs.getD j 0)).length<=100000):
 Calls Tryz.prog 180 (#[.int .i64 i,.int .i64 k]++#[.pointer (some ⟨X,0,none⟩)]) W fun e w'=>e=.returned (.int .i64 (Zjl rs i k))/\Below W.1.size W w':=by
 have HCM:=jq (fun w=>QC (Qa (rs.getD k 0)) (Qa (rs.getD i 0)) w (hl k) (hl i));rw[Qc,Qc] at HCM;have HCC:=jq (fun w=>Tryz.cmp_Compare_int i k w);have HRE:=jq (show(if QO (rs.getD k 0-rs.getD i 0)≠0 then QO (rs.getD k 0-rs.getD i 0) else Lib.compareInt i k)=Zjl rs i k from rfl);have HON:=jq (fun w=>Zn4 (QO (rs.getD k 0-rs.getD i 0)) (Lib.compareInt i k) w);rw[HRE.out] at HON;generalize Zjl rs i k=res at*;have z1:=hR i hi;have z2:=hR k hk
 have HZ:=jq (show ∀w',Below W.1.size W w'->w'.cell? ⟨X,0,none⟩=some (.slice (some ⟨R,0,none⟩) n n)/\w'.cell? ⟨R,i,none⟩=some (.string ⟨(Qa (rs.getD i 0)).toArray⟩)/\w'.cell? ⟨R,k,none⟩=some (.string ⟨(Qa (rs.getD k 0)).toArray⟩) from
  fun w' hb=>⟨(hb.cell (World.block_lt_of_cell? W _ hX)).trans hX,(hb.cell (World.block_lt_of_cell? W _ z1)).trans z1,(hb.cell (World.block_lt_of_cell? W _ z2)).trans z2⟩)
 generalize QO (rs.getD k 0-rs.getD i 0)=aa at*;generalize Lib.compareInt (i:Int) (k:Int)=bb at*;generalize Qa (rs.getD i 0)=ti at*;generalize Qa (rs.getD k 0)=tk at*;clear hR hl HRE;have HB:=jq (Below.refl W.1.size W);have i1:(0:Int)<=(i:Int):=by omega
 have i2:(i:Int)<(n:Int):=by omega
 have k1:(0:Int)<=(k:Int):=by omega
 have k2:(k:Int)<(n:Int):=by omega
 show Calls _ _ #[.int .i64 i,.int .i64 k,.pointer (some ⟨X,0,none⟩)] _ _
 go_enter Tryz.func180,Tryz.ntmps180
 go_upto_region 1 with (fail)
 go_region_held3 (fun w'=>w'.cell? ⟨X,0,none⟩=some (.slice (some ⟨R,0,none⟩) n n)/\w'.cell? ⟨R,i,none⟩=some (.string ⟨ti.toArray⟩)/\w'.cell? ⟨R,k,none⟩=some (.string ⟨tk.toArray⟩))
  (first
    |exact HZ.out _ hz2
    |exact HZ.out _ hz
    |exact HZ.out _ (HB.out.alloc (Nat.le_refl _) _)
    |go_keep)
  (first
    |(go_at_call 49;refine(HCM.out _).mono ?_;rintro e w1 ⟨rfl,hb1⟩;have hz:Below W.1.size W w1:=HB.out.drew.trans hb1)
    |(go_at_call 182;refine(HCC.out _).mono ?_;rintro e w2 ⟨rfl,rfl⟩)
    |(go_at_call 181;refine(HON.out _).mono ?_;rintro e w3 ⟨rfl,hb3⟩;have hz2:Below W.1.size W w3:=hz.trans (hb3.mono hz.size)))
 all_goals
  go_wp2_with fail
  first|go_ret|skip
  exact⟨rfl,hz2⟩
end
section
attribute [local go_sem ↓] Go.wp_at_zero Go.wp_at_succ
theorem Kp.perm{w W:World}{bs bs':List (Nat×Array Value×TypeId)}(h:Kp w bs W)(hp:bs.Perm bs'):Kp w bs' W:=
 ⟨h.pow,h.bl,fun b hb=>h.own b (hp.mem_iff.2 hb),((hp.map (·.1)).pairwise_iff (fun h=>fun e=>h e.symm)).1 h.ord,fun b hb=>h.blk b (hp.mem_iff.2 hb)⟩
theorem Kp.three{w w1:World}(h:Kp w [] w1)(c1 c2 c3:Array Value)(T1 T2 T3:TypeId):
 Kp w [(w1.1.size+1+1,c3,T3),(w1.1.size+1,c2,T2),(w1.1.size,c1,T1)] (((w1.alloc (.cells c1 T1)).alloc (.cells c2 T2)).alloc (.cells c3 T3)).drew:=
 (((h.new _ rfl c1 T1).new _ (by simp) c2 T2).new _ (by simp) c3 T3).drew
section
variable {α:Type} (x y z:α)
theorem Zoq:[x,y,z].Perm [x,z,y]:=.cons x (.swap z y [])
theorem Zor:[x,y,z].Perm [y,x,z]:=.swap y x [z]
theorem Zos:[x,y,z].Perm [y,z,x]:=(List.Perm.swap y x [z]).trans (.cons y (.swap z x []))
theorem Zot:[x,y,z].Perm [z,x,y]:=(List.Perm.cons x (.swap z y [])).trans (.swap z x [y])
theorem Zou:[x,y,z].Perm [z,y,x]:=((List.Perm.cons x (.swap z y [])).trans (.swap z x [y])).trans (.cons z (.swap y x []))
end
def Qj(l:List Int)(n k:Nat):Array Value:=((List.range n).map fun j=>if j<k then Value.string ⟨(Qa (l.getD j 0)).toArray⟩ else .string ⟨#[]⟩).toArray
theorem QD(l:List Int)(n k j:Nat)(hj:j<n):(Qj l n k)[j]?=some (if j<k then Value.string ⟨(Qa (l.getD j 0)).toArray⟩ else .string ⟨#[]⟩):=by
 simp[Qj,hj]
theorem ZeL(l:List Int)(n k:Nat)(hk:k<n):(Qj l n k)[k]?=some (.string ⟨#[]⟩):=by
 rw[QD l n k k hk,if_neg (Nat.lt_irrefl k)]
theorem Zjq(l:List Int)(n k:Nat)(hk:k<n):(Qj l n (k+1))[k]?=some (.string ⟨(Qa (l.getD k 0)).toArray⟩):=by
 rw[QD l n (k+1) k hk,if_pos (by omega)]
theorem ZeM(l:List Int)(n k:Nat)(hk:k<n):(Qj l n k).setIfInBounds k (.string ⟨(Qa (l.getD k 0)).toArray⟩)=Qj l n (k+1):=by
 apply Array.ext_getElem?
 intro i;rw[Array.getElem?_setIfInBounds]
 by_cases hi:i<n
 ·rw[QD l n (k+1) i hi]
  by_cases e:k=i
  ·subst e;rw[if_pos rfl,if_pos (by simpa[Qj] using hk),if_pos (by omega)]
  ·rw[if_neg e,QD l n k i hi]
   congr 1
   by_cases h2:i<k
   ·rw[if_pos h2,if_pos (by omega)]
   ·rw[if_neg h2,if_neg (by omega)]
 ·rw[if_neg (by omega),Array.getElem?_eq_none (by simp[Qj];omega),Array.getElem?_eq_none (by simp[Qj];omega)]
theorem XN(l:List Int)(n:Nat):madeCells #[.string ⟨#[]⟩] n=Qj l n 0:=by
 apply Array.ext_getElem?
 intro i
 by_cases hi:i<n
 ·rw[QD l n 0 i hi];simp[madeCells,hi,Nat.mod_one]
 ·rw[Array.getElem?_eq_none (by simp[madeCells];omega),Array.getElem?_eq_none (by simp[Qj];omega)]
def Ja(n k:Nat):Array Value:=((List.range n).map fun j=>if j<k then Value.int .i64 (j:Nat) else .int .i64 0).toArray
theorem ZbB(n k j:Nat)(hj:j<n):(Ja n k)[j]?=some (if j<k then Value.int .i64 (j:Nat) else .int .i64 0):=by
 simp[Ja,hj]
theorem Zlu(n k:Nat)(hk:k<n):(Ja n k)[k]?=some (.int .i64 0):=by
 rw[ZbB n k k hk,if_neg (Nat.lt_irrefl k)]
theorem Zlv(n k:Nat)(hk:k<n):(Ja n k).setIfInBounds k (.int .i64 (k:Nat))=Ja n (k+1):=by
 apply Array.ext_getElem?
 intro i;rw[Array.getElem?_setIfInBounds]
 by_cases hi:i<n
 ·rw[ZbB n (k+1) i hi]
  by_cases e:k=i
  ·subst e;rw[if_pos rfl,if_pos (by simpa[Ja] using hk),if_pos (by omega)]
  ·rw[if_neg e,ZbB n k i hi]
   congr 1
   by_cases h2:i<k
   ·rw[if_pos h2,if_pos (by omega)]
   ·rw[if_neg h2,if_neg (by omega)]
 ·rw[if_neg (by omega),Array.getElem?_eq_none (by simp[Ja];omega),Array.getElem?_eq_none (by simp[Ja];omega)]
theorem Zjr(n:Nat):madeCells #[.int .i64 0] n=Ja n 0:=by
 apply Array.ext_getElem?
 intro i
 by_cases hi:i<n
 ·rw[ZbB n 0 i hi];simp[madeCells,hi,Nat.mod_one]
 ·rw[Array.getElem?_eq_none (by simp[madeCells];omega),Array.getElem?_eq_none (by simp[Ja];omega)]
theorem Zlw(n:Nat):Ja n n=Zat (List.range n):=by
 unfold Ja Zat
 congr 1
 refine List.map_congr_left fun j hj=> ?_
 rw[if_pos (List.mem_range.1 hj)]
theorem ZmY(t:Int){ws:List (List UInt8)}{k:Nat}{x:List UInt8}(h:ws[k]?=some x):(Xj t (ws.map val)).getD k 0=(t*val x).fdiv (Qw ws)/\(XF t (ws.map val)).getD k 0=(t*val x).fmod (Qw ws):=by
 simp[Xj,XF,Qw,List.getD,h]
theorem Zlx{t:Int}{ns:List Int}(h0:0<=t)(hn:∀x∈ns,0<=x)(hS:0<ns.sum)(k:Nat):0<=((Xj t ns).take k).sum/\((Xj t ns).take k).sum<=t:=by
 have hb:∀b∈Xj t ns,0<=b:=by
  intro b hb;obtain⟨x,hx,rfl⟩:=List.mem_map.1 hb
  exact Int.fdiv_nonneg (Int.mul_nonneg h0 (hn x hx)) (by omega)
 have h1:=QH (l:=(Xj t ns).take k) (fun b hb'=>hb b (List.mem_of_mem_take hb'));have h2:=QH (l:=(Xj t ns).drop k) (fun b hb'=>hb b (List.mem_of_mem_drop hb'));have h3:((Xj t ns).take k).sum+((Xj t ns).drop k).sum=(Xj t ns).sum:=by rw[<-Qv,List.take_append_drop]
 have h4:=Zad t hS;unfold YO at h4;omega
theorem Zec{l:List Int}{k:Nat}(hk:k<l.length):(l.take (k+1)).sum=(l.take k).sum+l.getD k 0:=by
 rw[List.take_succ_eq_append_getElem hk,Qv];simp[List.getD,hk]
def upA(l:List Int)(ups:List Nat)(n:Nat):Array Value:=((List.range n).map fun j=>Value.string ⟨(Qa (if j∈ups then l.getD j 0+1 else l.getD j 0)).toArray⟩).toArray
theorem Zfp(l:List Int)(ups:List Nat)(n j:Nat)(hj:j<n):(upA l ups n)[j]?=some (Value.string ⟨(Qa (if j∈ups then l.getD j 0+1 else l.getD j 0)).toArray⟩):=by
 simp[upA,hj]
theorem ZmZ(l:List Int)(n:Nat):Qj l n n=upA l [] n:=by
 unfold Qj upA
 congr 1
 refine List.map_congr_left fun j hj=> ?_
 rw[if_pos (List.mem_range.1 hj),if_neg (by simp)]
theorem Zm0(l:List Int)(ups:List Nat)(n i:Nat)(hi:i<n)(_hu:i ∉ ups):(upA l ups n).setIfInBounds i (.string ⟨(Qa (l.getD i 0+1)).toArray⟩)=upA l (ups++[i]) n:=by
 apply Array.ext_getElem?
 intro j;rw[Array.getElem?_setIfInBounds]
 by_cases hj:j<n
 ·rw[Zfp l (ups++[i]) n j hj]
  by_cases e:i=j
  ·subst e;rw[if_pos rfl,if_pos (by simpa[upA] using hi),if_pos (by simp)]
  ·rw[if_neg e,Zfp l ups n j hj]
   congr 3
   have:j∈ups++[i]↔j∈ups:=by simp;intro h;exact absurd h.symm e
   simp only[this]
 ·rw[if_neg (by omega),Array.getElem?_eq_none (by simp[upA];omega),Array.getElem?_eq_none (by simp[upA];omega)]
theorem Zm1(t:Int)(ns:List Int)(n:Nat)(hn:ns.length=n):upA (Xj t ns) (upL t ns) n=Qj (Yv t ns) n n:=by
 unfold Qj upA
 congr 1
 refine List.map_congr_left fun j hj=> ?_
 have hj':=List.mem_range.1 hj;rw[if_pos hj'];have h1:=ZfR t ns j (by omega)
 have h2:(Yv t ns).getD j 0=if j∈upL t ns then(Xj t ns).getD j 0+1 else(Xj t ns).getD j 0:=by
  rw[List.getD,h1];simp only[Option.getD_some,Xj,List.getD,List.getElem?_map,List.getElem?_eq_getElem (show j<ns.length by omega),Option.map_some]
 rw[h2]
theorem Zly:(Tryz.prog.info? 24).map (fun i=>(i.zero,i.size,i.bytes))=some (some (.string ⟨#[]⟩),1,16):=by kernel_rfl
theorem Zov:(Tryz.prog.info? 3).map (fun i=>(i.zero,i.size,i.bytes))=some (some (.int .i64 0),1,8):=by kernel_rfl
theorem Zfq(t:List UInt8)(A:Option Addr)(n c:Nat)(ws:List (List UInt8))(w:World)(hp:Env w)(hs:Vk w w.1.size A n ws)(ht:t.length<=1000)(hl:∀x∈ws,x.length<=1000)(hn0:0<n)(hn:n<=1000)(htc:t=Qa (val t))(h0:0<=val t)(hw0:∀x∈ws,0<=val x)(hS:0<Qw ws):
 Calls Tryz.prog 134 #[S t,.slice A n c] w fun e w'=>∃P,e=.returned (.slice (some ⟨P,0,none⟩) n n)/\BlkB w' P (Qj (Yv (val t) (ws.map val)) n n) 24/\w.1.size<=P/\Below w.1.size w w':=by
 have HS:=jq hs;have HL:=jq hl;have H:=jq (Kp.start hp);have HWH:=jq (ZdA A n c ws w hp hs (fun x hx=>by have:=hl x hx;omega) (by omega));have hmk:=run_make_row' (P:=Tryz.prog) 56 24 (.string ⟨#[]⟩) 16 Tryz.underlying56 Zly rfl .i64 .i64 n (by omega) (by omega);have hmi:=run_make_row' (P:=Tryz.prog) 236 3 (.int .i64 0) 8 Tryz.underlying236 Zov rfl .i64 .i64 n (by omega) (by omega);rw[XN []] at hmk;rw[Zjr] at hmi;clear hs hl hp;have HTC:=jq htc;clear htc;unfold S at*
 go_enter Tryz.func134,Tryz.ntmps134
 go_wp2_with fail
 refine HWH.out.mono ?_;rintro e w1 ⟨rfl,hb⟩;replace H:=jq (H.out.here hb);clear hb HWH;unfold S;go_upto_region 2 with (fail)
 go_cut [6,7] (fun s u wc=>∃P R X:Nat,s=.slice (some ⟨P,0,none⟩) n n/\u=.pointer (some ⟨X,0,none⟩)/\Hid (Kp w [(P,Qj [] n 0,24),(R,Qj [] n 0,24),(X,#[.slice (some ⟨R,0,none⟩) n n],56)] wc))
 case first=>
  go_region
  all_goals
   go_wp2_with fail
   go_meet
   have H3:=H.out.three
   first
    |exact⟨_,_,_,rfl,rfl,(H3 _ _ _ _ _ _).perm (Zoq _ _ _)⟩
    |exact⟨_,_,_,rfl,rfl,(H3 _ _ _ _ _ _).perm (Zor _ _ _)⟩
    |exact⟨_,_,_,rfl,rfl,(H3 _ _ _ _ _ _).perm (Zos _ _ _)⟩
    |exact⟨_,_,_,rfl,rfl,(H3 _ _ _ _ _ _).perm (Zot _ _ _)⟩
    |exact⟨_,_,_,rfl,rfl,(H3 _ _ _ _ _ _).perm (Zou _ _ _)⟩
    |exact⟨_,_,_,rfl,rfl,H3 _ _ _ _ _ _⟩
 case rest=>
 clear H hmk;obtain⟨P,R,X,rfl,rfl,HK⟩:=hcut
 obtain⟨O,hO⟩:∃O,O=wc.1.size:=⟨_,rfl⟩
 have HK2:=jq (HK.out.new O hO (Ja n 0) 3);clear HK;go_wp2_with fail
 rw[<-hO];generalize wc.alloc (.cells (Ja n 0) 3)=W0 at*;clear hO hmi;have hlen:(ws.map val).length=n:=by rw[List.length_map];exact HS.out.1.symm
 have hsn:0<(ws.map val).sum:=hS;have hn0s:∀x∈ws.map val,0<=x:=by intro x hx;obtain⟨y,hy,rfl⟩:=List.mem_map.1 hx;exact hw0 y hy
 have HPS:=jq (Zlx (t:=val t) h0 hn0s hsn);have HBA:=jq (fun k x h=>ZmY (val t) (ws:=ws) (k:=k) (x:=x) h);have HUP:=jq (Zm1 (val t) (ws.map val) n hlen);have HRB:=jq (VK (val t) hsn);have hbl:(Xj (val t) (ws.map val)).length=n:=by simpa[Xj] using hlen
 have hrl:(XF (val t) (ws.map val)).length=n:=by simpa[XF] using hlen
 have HMU:=jq (fun k (hk:k<n)=>Zec (l:=Xj (val t) (ws.map val)) (k:=k) (by omega));have HML:=jq (show YO (val t) (ws.map val)=val t-((Xj (val t) (ws.map val)).take n).sum by unfold YO;rw[List.take_of_length_le (by omega)])
 have HMC:=jq (show 0<=YO (val t) (ws.map val)/\YO (val t) (ws.map val)<=n by
  refine⟨Zad _ hsn,Int.le_trans (VT _ hsn) ?_⟩;have:=List.countP_le_length (p:=fun r:Int=>decide (0<r)) (l:=XF (val t) (ws.map val))
  omega)
 have HUL:=jq (show upL (val t) (ws.map val)=(VS (XF (val t) (ws.map val))).take (YO (val t) (ws.map val)).toNat from rfl);have e1:=(XN [] n).symm.trans (XN (Xj (val t) (ws.map val)) n);have e2:=(XN [] n).symm.trans (XN (XF (val t) (ws.map val)) n);generalize YO (val t) (ws.map val)=ms at*;generalize hps:Yv (val t) (ws.map val)=ps at*;have HPQ:=jq hps;clear hps;generalize upL (val t) (ws.map val)=ups at*;generalize Xj (val t) (ws.map val)=bs at*;generalize XF (val t) (ws.map val)=rs at*;obtain⟨K,hK⟩:∃K:Nat,K=1000:=⟨_,rfl⟩
 rw[<-hK] at ht;have htv:=Qp ht;have hsv:=ZfS (ws:=ws) (L:=K) (fun x hx=>by have:=HL.out x hx;omega);have hsl:=Zbo (ws:=ws) (L:=K) (fun x hx=>by have:=HL.out x hx;omega) (by have:=HS.out.1;omega);have HLP:=jq (fun k x (h:ws[k]?=some x)=>Qd (n:=val t*val x) (L:=K+K) (Qt htv (Qp (by have:=HL.out x (List.mem_of_getElem? h);omega))));have HLM:=jq (fun k=>Qd (n:=val t-(bs.take k).sum) (L:=K) (by have:=HPS.out k;omega));have HK3:=jq (show Kp w [(O,Ja n 0,3),(P,Qj bs n 0,24),(R,Qj rs n 0,24),(X,#[Value.slice (some ⟨R,0,none⟩) n n],56)] W0 by rw[<-e1,<-e2];exact HK2.out)
 have HLR:=jq (show ∀j,(Qa (rs.getD j 0)).length<=100000 from fun j=>by
  have hb:0<=rs.getD j 0/\rs.getD j 0<=Qw ws:=by
   rw[List.getD_eq_getElem?_getD]
   cases hj:rs[j]? with
   |none=>exact⟨Int.le_refl _,Int.le_of_lt hS⟩
   |some r=>have:=HRB.out r (List.mem_of_getElem? hj);exact⟨this.1,Int.le_of_lt this.2⟩
  have h10:1000*10^K<10^(K+4):=by rw[Nat.pow_add];have:1<=10^K:=Nat.pow_pos (by omega);omega
  have hn2:ws.length*10^K<=1000*10^K:=Nat.mul_le_mul_right _ (by have:=HS.out.1;omega);have:=Qd (n:=rs.getD j 0) (L:=K+4) (by omega)
  omega)
 have HLB:=jq (show ∀q,q<n->(Qa (bs.getD q 0)).length<=100000 from fun q hq=>by
  have h1:=HPS.out q;have h2:=HPS.out (q+1);rw[HMU.out q hq] at h2;have:=Qd (n:=bs.getD q 0) (L:=K) (by omega)
  omega)
 have hK2:=hK;clear htv hsv e1 e2 HK2 h0 hw0 hsn hn0s
 go_loopw [9,10,11,30] (fun m _ _ i wr=>∃k:Nat,k<=n/\m=.string ⟨(Qa (val t-(bs.take k).sum)).toArray⟩/\i=.int .i64 k/\Hid (Kp w [(O,Ja n k,3),(P,Qj bs n k,24),(R,Qj rs n k,24),(X,#[Value.slice (some ⟨R,0,none⟩) n n],56)] wr)) (fun _ _ _ i _=>n-(intOf i).toNat)
 case atStart=>exact⟨0,Nat.zero_le _,(by rw[List.take_zero,List.sum_nil,Int.sub_zero,<-HTC.out]),rfl,HK3⟩
 case round=>
  clear HK3;obtain⟨k,hk,rfl,rfl,H⟩:=hrel
  by_cases hlt:k<n
  ·obtain⟨b,off,x,rfl,hb,hx,d0⟩:=(HS.out.below H.out.bl).st hlt
   have HX:=jq hx;clear hx;obtain⟨hb1,hb2⟩:=HBA.out k x HX.out
   have HMUL:=jq (fun W hp=>Ye t x W hp (by omega) (by have:=HL.out x (List.mem_of_getElem? HX.out);omega));have HDV:=jq (fun W hp=>(ZaL (Qa (val t*val x)) (Qa (Qw ws)) W hp (by have:=HLP.out k x HX.out;omega) (by omega)).mono fun e w' h=>ZaM (by rw[Qc];omega) h);rw[Qc,Qc,<-hb1,<-hb2] at HDV
   have HSU:=jq (fun W hp=>Yp (Qa (val t-(bs.take k).sum)) (Qa (bs.getD k 0)) W hp (by have:=HLM.out k;omega) (by
    have h1:=HPS.out k;have h2:=HPS.out (k+1);rw[HMU.out k hlt] at h2;have:=Qd (n:=bs.getD k 0) (L:=K) (by have:=Qp ht;omega)
    omega))
   rw[Qc,Qc,show val t-(bs.take k).sum-bs.getD k 0=val t-(bs.take (k+1)).sum by rw[HMU.out k hlt];omega] at HSU;clear hb1 hb2;generalize Qa (val t-(bs.take k).sum)=tm at*;generalize htm2:Qa (val t-(bs.take (k+1)).sum)=tm2 at*;have HTM2:=jq htm2;clear htm2;generalize Qa (val t*val x)=tp at*;have HPA:=jq (ZeM bs n k hlt);have HRA:=jq (ZeM rs n k hlt);have HIA:=jq (Zlv n k hlt);have HPO2:=jq (Zjq bs n k hlt);have HPN:=jq (ZeL bs n k hlt);have HRN:=jq (ZeL rs n k hlt);have HIN:=jq (Zlu n k hlt);generalize Qa (bs.getD k 0)=tb at*;generalize Qa (rs.getD k 0)=tr at*;generalize Qa (Qw ws)=tsum at*;unfold S at HMUL HDV HSU;have nPR:=H.out.ne 1 2 rfl rfl (by decide);have nRP:=H.out.ne 2 1 rfl rfl (by decide);have i1:(0:Int)<=(k:Int):=by omega
   have i2:(k:Int)<(n:Int):=by omega
   go_upto_region 8 with (fail)
   go_cut [] (fun w9=>Hid (Kp w [(O,Ja n k,3),(P,Qj bs n (k+1),24),(R,Qj rs n (k+1),24),(X,#[Value.slice (some ⟨R,0,none⟩) n n],56)] w9))
   case first=>
    have x0:wr.cell? ⟨X,0,none⟩=some (.slice (some ⟨R,0,none⟩) n n):=H.out.c 3 0 rfl rfl;clear d0 HS HL HTC HPS HMU HML HUP HRB HUL HBA HLP HLM hsl ht hK hK2 HX HMC HSU HPO2 HIN HIA hb hlen hbl hrl hS hn hn0 hk hlt
    go_region_held3 (fun w'=>w'.cell? ⟨X,0,none⟩=some (.slice (some ⟨R,0,none⟩) n n))
     (first
       |with_reducible exact k2
       |with_reducible exact k3
       |with_reducible exact k4 _
       |with_reducible exact k5 _
       |with_reducible exact k6 _ _
       |go_keep)
     (first
       |(go_at_call 125;refine(HMUL.out _ H.out.drew.po).mono ?_;rintro e w2 ⟨rfl,hb2⟩;unfold S;have hz:Below wr.1.size wr w2:=(Below.refl _ wr).drew.trans hb2;have k2:w2.cell? ⟨X,0,none⟩=some (.slice (some ⟨R,0,none⟩) n n):=(H.out.here hz).c 3 0 rfl rfl)
       |(go_at_call 85;refine(HDV.out _ (H.out.here hz).po).mono ?_;rintro e w3 ⟨rfl,hb3⟩;have hz2:Below wr.1.size wr w3:=hz.trans (hb3.mono hz.size);have g1:=(H.out.here hz2).f 1 k rfl;have g2:=(H.out.here hz2).f 2 k rfl;have p1:=(H.out.here hz2).c 1 k rfl HPN.out;have p2:=(H.out.here hz2).c 2 k rfl HRN.out;have k3:w3.cell? ⟨X,0,none⟩=some (.slice (some ⟨R,0,none⟩) n n):=(H.out.here hz2).c 3 0 rfl rfl;have k4:∀v,(w3.setCell ⟨P,k,none⟩ v).cell? ⟨X,0,none⟩=some (.slice (some ⟨R,0,none⟩) n n):=(fun v=>((H.out.here hz2).set 1 k rfl v).c 3 0 rfl rfl);have k5:∀v,(w3.setCell ⟨R,k,none⟩ v).cell? ⟨X,0,none⟩=some (.slice (some ⟨R,0,none⟩) n n):=(fun v=>((H.out.here hz2).set 2 k rfl v).c 3 0 rfl rfl);have k6:∀u v,((w3.setCell ⟨P,k,none⟩ u).setCell ⟨R,k,none⟩ v).cell? ⟨X,0,none⟩=some (.slice (some ⟨R,0,none⟩) n n):=(fun u v=>(((H.out.here hz2).set 1 k rfl u).set 2 k rfl v).c 3 0 rfl rfl)))
    all_goals
     go_wp2_with fail
     go_meet
     first
      |(have h9:Kp w [(O,Ja n k,3),(P,(Qj bs n k).setIfInBounds k (.string ⟨tb.toArray⟩),24),(R,(Qj rs n k).setIfInBounds k (.string ⟨tr.toArray⟩),24),(X,#[Value.slice (some ⟨R,0,none⟩) n n],56)] _:=((H.out.here hz2).set 1 k rfl (.string ⟨tb.toArray⟩)).set 2 k rfl (.string ⟨tr.toArray⟩)
        rw[HPA.out,HRA.out] at h9;exact h9)
      |(have h9:Kp w [(O,Ja n k,3),(P,(Qj bs n k).setIfInBounds k (.string ⟨tb.toArray⟩),24),(R,(Qj rs n k).setIfInBounds k (.string ⟨tr.toArray⟩),24),(X,#[Value.slice (some ⟨R,0,none⟩) n n],56)] _:=((H.out.here hz2).set 2 k rfl (.string ⟨tr.toArray⟩)).set 1 k rfl (.string ⟨tb.toArray⟩)
        rw[HPA.out,HRA.out] at h9;exact h9)
   case rest=>
   clear H HMUL HDV HPA HRA HPN HRN nPR nRP d0 HX;have H:=hcut;clear hcut;have p1:wc.cell? ⟨P,k,none⟩=some (.string ⟨tb.toArray⟩):=H.out.c 1 k rfl HPO2.out;go_wp2_with fail
   refine(HSU.out _ H.out.po).mono ?_;rintro e w10 ⟨rfl,hb10⟩;replace H:=jq (H.out.here hb10);clear hb10 p1;have q1:w10.cell? ⟨O,k,none⟩=some (.int .i64 0):=H.out.c 0 k rfl HIN.out;have g1:=H.out.f 0 k rfl
   have H9:=jq (show Kp w [(O,Ja n (k+1),3),(P,Qj bs n (k+1),24),(R,Qj rs n (k+1),24),(X,#[Value.slice (some ⟨R,0,none⟩) n n],56)] (w10.setCell ⟨O,k,none⟩ (.int .i64 (k:Nat))) by
    have h9:Kp w [(O,(Ja n k).setIfInBounds k (.int .i64 (k:Nat)),3),(P,Qj bs n (k+1),24),(R,Qj rs n (k+1),24),(X,#[Value.slice (some ⟨R,0,none⟩) n n],56)] _:=H.out.set 0 k rfl (.int .i64 (k:Nat));rw[HIA.out] at h9;exact h9)
   go_wp2_with fail
   go_roundw
   case rel=>exact⟨k+1,by omega,(by rw[HTM2.out];rfl),by go_num,H9⟩
   case measure=>simp[intOf];omega
  ·obtain rfl:k=n:=by omega
   clear HMU HBA HLP HLM HPS;have hO:=H.out.at_ 0 rfl;rw[Zlw] at hO;have hX:=H.out.c 3 0 rfl rfl;have hRR:=H.out.at_ 2 rfl
   have HSO:=jq (show Calls Tryz.prog 179 #[.slice (some ⟨O,0,none⟩) k k,.func (.func 180) #[] #[.pointer (some ⟨X,0,none⟩)]] wr fun e w'=>e=.returned (.tuple #[])/\wr.grownBy w' (some O)/\BlkB w' O (Zat (VS rs)) 3 from
    Zls Tryz.sortI 180 #[.pointer (some ⟨X,0,none⟩)] rs k O k wr 3 hrl hn0 (by omega) (enters_of Tryz.func180 (by kernel_rfl) rfl) hO
     (fun W' hg x y hx hy=>Zlt rs k R X x y hx hy (by omega) W'
       ((World.cell?_of_block (hg.block X (H.out.lt 3 rfl) (fun e=>H.out.ne 3 0 rfl rfl (by decide) (by injection e)))).trans hX)
       (fun j hj=>(World.cell?_of_block (hg.block R (H.out.lt 2 rfl) (fun e=>H.out.ne 2 0 rfl rfl (by decide) (by injection e)))).trans (hRR.cell j (by rw[QD rs k k j hj,if_pos hj])))
       HLR.out))
   clear hO hX hRR;obtain⟨m,hm⟩:∃m:Nat,ms=(m:Int):=⟨ms.toNat,by have:=HMC.out;omega⟩
   have hmk:m<=k:=by have:=HMC.out;omega
   have HSM:=jq (Zjp m (by omega));rw[<-HML.out,hm];rw[hm,Int.toNat_natCast] at HUL;have HOL:=jq (show(VS rs).length=k by rw[Zcm];exact hrl);have HON:=jq (Zc9 rs);have HOM:=jq (show ∀q∈VS rs,q<k from fun q hq=>by have:=Zj0.1 hq;omega);clear HML HMC hm;generalize VS rs=os at*;generalize Qa (m:Int)=tm at*;unfold S at HSM;go_wp2_with fail
   refine HSO.out.mono ?_;rintro e w2 ⟨rfl,hg2,hB2⟩;have H2:=jq (H.out.grown (i:=0) hg2 rfl hB2);clear hg2 hB2 H HSO;go_wp2_with fail
   refine(HSM.out _ H2.out.pw).mono ?_;rintro e w3 ⟨rfl,hb3⟩;have H3:=jq (H2.out.here hb3);clear hb3 H2 HSM;have i1:(0:Int)<=(m:Int):=by omega
   have i2:(m:Int)<=(k:Int):=by omega
   have HK3:=jq (show Kp w [(O,Zat os,3),(P,upA bs (os.take 0) k,24),(R,Qj rs k k,24),(X,#[Value.slice (some ⟨R,0,none⟩) k k],56)] w3 by
    rw[List.take_zero,<-ZmZ];exact H3.out)
   have HIV:=jq (show ∀(j q:Nat),os[j]?=some q->(Zat os)[j]?=some (Value.int .i64 (q:Nat)) from fun j q h=>by simp[Zat,h]);clear H3 HTC HL HS HRB HLR hS hlen hrl hsl ht hK hK2;go_wp2_with fail
   go_loopw [15,73] (fun _ j wr=>∃q:Nat,q<=m/\j=.int .i64 q/\Hid (Kp w [(O,Zat os,3),(P,upA bs (os.take q) k,24),(R,Qj rs k k,24),(X,#[Value.slice (some ⟨R,0,none⟩) k k],56)] wr)) (fun _ j _=>m-(intOf j).toNat)
   case atStart=>exact⟨0,Nat.zero_le _,rfl,HK3⟩
   case round=>
    clear HK3;obtain⟨q,hq,rfl,H⟩:=hrel
    by_cases hlt:q<m
    ·have hqo:q<os.length:=by have:=HOL.out;omega
     have hoq:os[q]?=some os[q]:=List.getElem?_eq_getElem hqo;have hqk:os[q]<k:=HOM.out _ (List.getElem_mem hqo)
     have hnt:os[q] ∉ os.take q:=fun hm=>by
      obtain⟨j,hj,e⟩:=List.mem_take_iff_getElem.1 hm
      exact(List.pairwise_iff_getElem.1 HON.out) j q (by omega) hqo (by omega) (by simpa using e)
     have HTS:=jq (show os.take (q+1)=os.take q++[os[q]] from List.take_succ_eq_append_getElem hqo);have hcO:=H.out.c 0 q rfl (HIV.out q _ hoq);generalize os[q]=z at*;have HG:=jq (show(upA bs (os.take q) k)[z]?=some (.string ⟨(Qa (bs.getD z 0)).toArray⟩) by rw[Zfp bs (os.take q) k z hqk,if_neg hnt]);have HSE:=jq (Zm0 bs (os.take q) k z hqk hnt);rw[<-HTS.out] at HSE;have HAD:=jq (fun W hp=>Xv (Qa (bs.getD z 0)) [49] W hp (HLB.out z hqk) (by simp));rw[Qc,VN] at HAD;have hcP:=H.out.c 1 z rfl HG.out;unfold S at HAD;generalize Qa (bs.getD z 0)=tz at*;generalize Qa (bs.getD z 0+1)=tz1 at*;have z1:(0:Int)<=(z:Int):=by omega
     have z2:(z:Int)<(k:Int):=by omega
     clear hoq hnt HTS;go_wp2_with fail
     refine(HAD.out _ H.out.po).mono ?_;rintro e w4 ⟨rfl,hb4⟩;unfold S;replace H:=jq (H.out.here hb4);clear hb4 hcO hcP;have g1:=H.out.f 1 z rfl;have hcP:=H.out.c 1 z rfl HG.out
     have H9:=jq (show Kp w [(O,Zat os,3),(P,upA bs (os.take (q+1)) k,24),(R,Qj rs k k,24),(X,#[Value.slice (some ⟨R,0,none⟩) k k],56)] (w4.setCell ⟨P,z,none⟩ (.string ⟨tz1.toArray⟩)) by
      have h9:Kp w [(O,Zat os,3),(P,(upA bs (os.take q) k).setIfInBounds z (.string ⟨tz1.toArray⟩),24),(R,Qj rs k k,24),(X,#[Value.slice (some ⟨R,0,none⟩) k k],56)] _:=H.out.set 1 z rfl (.string ⟨tz1.toArray⟩);rw[HSE.out] at h9;exact h9)
     go_wp2_with fail
     go_roundw
     case rel=>exact⟨q+1,by omega,by go_num,H9⟩
     case measure=>simp[intOf];omega
    ·obtain rfl:q=m:=by omega
     have hF:=H.out.at_ 1 rfl;rw[<-HUL.out,HUP.out] at hF;have HF:=jq hF;have hold:=H.out.old 1 rfl;clear hF;go_wp2_with fail
     first|go_ret|skip
     exact⟨P,rfl,by rw[HPQ.out];exact HF.out,hold,H.out.bl⟩
end
section
def YL(l:List Int)(n:Nat)(w:World)(e:Ending)(w':World):Prop:=∃P,e=.returned (.slice (some ⟨P,0,none⟩) n n)/\BlkB w' P (Qj l n n) 24/\w.1.size<=P/\Below w.1.size w w'
def ZbC(l:List Int)(n:Nat)(r:Int)(w:World)(e:Ending)(w':World):Prop:=∃P,e=.returned (.tuple #[.slice (some ⟨P,0,none⟩) n n,.int .i64 r])/\BlkB w' P (Qj l n n) 24/\w.1.size<=P/\Below w.1.size w w'
theorem ZgA(t:List UInt8)(A:Option Addr)(n c:Nat)(ws:List (List UInt8))(w:World)(hp:Env w)(hs:Vk w w.1.size A n ws)(ht:t.length<=1000)(hl:∀x∈ws,x.length<=1000)(hn0:0<n)(hn:n<=1000)(htc:t=Qa (val t))(h0:0<=val t)(hw0:∀x∈ws,0<=val x)(hS:0<Qw ws):
 Calls Tryz.prog 90 #[S t,.slice A n c] w (YL (Yv (val t) (ws.map val)) n w):=by
 have HNG:=jq (YJ t (by omega));rw[show decide (val t<0)=false by simpa using h0] at HNG;have HPS:=jq (fun W (hb:Below w.1.size w W)=>Zfq t A n c ws W (hp.here hb) (hs.here hb) ht hl hn0 hn htc h0 hw0 hS);have HPO:=jq (show ∀e w',YL (Yv (val t) (ws.map val)) n w e w'=∃P,e=.returned (.slice (some ⟨P,0,none⟩) n n)/\BlkB w' P (Qj (Yv (val t) (ws.map val)) n n) 24/\w.1.size<=P/\Below w.1.size w w' from fun _ _=>rfl);generalize YL (Yv (val t) (ws.map val)) n w=post at*;have H:=jq (Kp.start hp);generalize Yv (val t) (ws.map val)=ps at*;clear hp hs ht hl hn0 hn htc h0 hw0 hS;unfold S at*
 go_enter Tryz.func90,Tryz.ntmps90
 go_wp2_with fail
 refine(HNG.out _ H.out.pw).mono ?_;rintro e w1 ⟨rfl,hb⟩;replace H:=jq (H.out.here hb);clear hb;go_wp2_with fail
 refine(HPS.out _ H.out.bl).mono ?_;rintro e w2 ⟨P,rfl,hB,hP,hb⟩;have HB:=jq hB;clear hB;go_wp2_with fail
 first|go_ret|skip
 rw[HPO.out];exact⟨P,rfl,HB.out,by have:=H.out.bl.size;omega,(H.out.here hb).bl⟩
theorem ZeN(t:List UInt8)(A:Option Addr)(n c:Nat)(ws:List (List UInt8))(w:World)(hp:Env w)(hs:Vk w w.1.size A n ws)(ht:t.length<=1000)(hl:∀x∈ws,x.length<=1000)(hn0:0<n)(hn:n<=1000)(htc:t=Qa (val t))(h0:0<=val t)(hw0:∀x∈ws,0<=val x)(hS:0<Qw ws)(hc:QX t ws=0):
 Calls Tryz.prog 43 #[S t,.slice A n c] w (ZbC (Yv (val t) (ws.map val)) n 0 w):=by
 have HCK:=jq (ZdB t A n c ws w hp hs (by omega) (fun x hx=>by have:=hl x hx;omega) (by omega));rw[hc] at HCK;have HPS:=jq (fun W (hb:Below w.1.size w W)=>ZgA t A n c ws W (hp.here hb) (hs.here hb) ht hl hn0 hn htc h0 hw0 hS);have HPO:=jq (show ∀e w',ZbC (Yv (val t) (ws.map val)) n 0 w e w'=∃P,e=.returned (.tuple #[.slice (some ⟨P,0,none⟩) n n,.int .i64 0])/\BlkB w' P (Qj (Yv (val t) (ws.map val)) n n) 24/\w.1.size<=P/\Below w.1.size w w' from fun _ _=>rfl);generalize ZbC (Yv (val t) (ws.map val)) n 0 w=post at*;have H:=jq (Kp.start hp);generalize Yv (val t) (ws.map val)=ps at*;clear hp hs ht hl hn0 hn htc h0 hw0 hS hc;unfold S at*
 go_enter Tryz.func43,Tryz.ntmps43
 go_wp2_with fail
 refine HCK.out.mono ?_;rintro e w1 ⟨rfl,hb⟩;replace H:=jq (H.out.here hb);clear hb;go_wp2_with fail
 refine(HPS.out _ H.out.bl).mono ?_;rintro e w2 ⟨P,rfl,hB,hP,hb⟩;have HB:=jq hB;clear hB;go_wp2_with fail
 first|go_ret2|skip
 rw[HPO.out];exact⟨P,rfl,HB.out,by have:=H.out.bl.size;omega,(H.out.here hb).bl⟩
theorem ZeO(t:List UInt8)(A:Option Addr)(n c:Nat)(ws:List (List UInt8))(w:World)(hp:Env w)(hs:Vk w w.1.size A n ws)(ht:t.length<=1000)(hl:∀x∈ws,x.length<=1000)(hn:n<=1000000)(hc:QX t ws≠0):
 Calls Tryz.prog 43 #[S t,.slice A n c] w fun e w'=>e=.returned (.tuple #[.slice none 0 0,.int .i64 (QX t ws)])/\Below w.1.size w w':=by
 have HCK:=jq (ZdB t A n c ws w hp hs (by omega) (fun x hx=>by have:=hl x hx;omega) (by omega));generalize QX t ws=r at*;have hr:(r !=0)=true:=by simpa using hc
 clear hp hs ht hl hn hc;unfold S at*
 go_enter Tryz.func43,Tryz.ntmps43
 go_wp2_with fail
 refine HCK.out.mono ?_;rintro e w1 ⟨rfl,hb⟩;go_wp2_with fail
 first|go_ret2|skip
 exact⟨rfl,hb⟩
end
end Go.Proofs.YtmamnnaiogidaaaGreatDoor
