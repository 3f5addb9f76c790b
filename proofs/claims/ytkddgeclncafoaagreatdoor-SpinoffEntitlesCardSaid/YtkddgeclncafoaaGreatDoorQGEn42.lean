/- Sc, AL2, AL3, Mq1, Mq2, Pt, Rp0, Rp5, PaS. -/
import Derived.Test.YtkddgeclncafoaaGreatDoorQGEn39
import Derived.Test.YtkddgeclncafoaaGreatDoorQGEn18
import Derived.Test.YtkddgeclncafoaaGreatDoorQGEn7
import Derived.BigRegion
import Derived.Deep.DrawnRows
import Derived.Test.YtkddgeclncafoaaGreatDoorShs
set_option maxRecDepth 20000
set_option maxHeartbeats 10000000
namespace Go.Proofs.YtkddgeclncafoaaGreatDoor
open Go.Lib renaming hid→jq
open Go.RowKit Go.Shelf
section
theorem Zn3(a b:Int)(bl:Nat)(w:World)(h0:w.cell? ⟨bl,0,none⟩=some (.int .i64 a))(h1:w.cell? ⟨bl,1,none⟩=some (.int .i64 b)):Calls Tryz.prog 169 #[.slice (some ⟨bl,0,none⟩) 2 2] w fun e w'=>e=.returned (.int .i64 (if a≠0 then a else b))/\Below w.1.size w w':=by
 have HR:=jq (show ∀r:Int,(a≠0->r=a)->(a=0->r=b)->(if a≠0 then a else b)=r by
  intro r h1 h2
  by_cases h:a=0
  ·rw[if_neg (by simp[h]),h2 h]
  ·rw[if_pos h,h1 h])
 generalize (if a≠0 then a else b)=res at*;have HB:=jq (Below.refl w.1.size w);go_enter Tryz.func169,Tryz.ntmps169
 go_wp2_with fail
 go_loop [8] (fun i=>∃k:Nat,k<=2/\i=.int .i64 k/\Hid (1<=k->a=0)/\Hid (2<=k->b=0)) (fun i=>2-(intOf i).toNat)
 case atStart=>exact⟨0,by omega,rfl,fun h=>by omega,fun h=>by omega⟩
 case round=>
  obtain⟨k,hk,rfl,HA,HBB⟩:=hrel
  by_cases hlt:k<2
  ·obtain rfl|rfl:k=0\/k=1:=by omega
   ·by_cases ha:a=0
    ·have hx:(a !=0)=false:=by simp[ha]
     have HA0:=jq ha;clear ha HA HBB hk hlt
     go_wp2
     go_round
     case rel=>exact⟨1,by omega,by go_num,fun _=>HA0.out,fun h=>by omega⟩
     case measure=>simp[intOf]
    ·have hx:(a !=0)=true:=by simp[ha]
     have HE:=jq (HR.out a (fun _=>rfl) (fun h=>absurd h ha));clear ha HA HBB hk hlt
     go_wp2
     go_ret
     exact⟨Qb HE.out.symm,HB.out⟩
   ·have HA0:=jq (HA.out (by omega))
    by_cases hb:b=0
    ·have hx:(b !=0)=false:=by simp[hb]
     have HB0:=jq hb;clear hb HA HBB hk hlt
     go_wp2
     go_round
     case rel=>exact⟨2,by omega,by go_num,fun _=>HA0.out,fun _=>HB0.out⟩
     case measure=>simp[intOf]
    ·have hx:(b !=0)=true:=by simp[hb]
     have HE:=jq (HR.out b (fun h=>absurd HA0.out h) (fun _=>rfl));clear hb HA HBB hk hlt
     go_wp2
     go_ret
     exact⟨Qb HE.out.symm,HB.out⟩
  ·obtain rfl:k=2:=by omega
   have HE:=jq (HR.out 0 (fun h=>absurd (HA.out (by omega)) h) (fun _=>(HBB.out (by omega)).symm));clear HA HBB hk hlt
   go_wp2
   go_ret
   exact⟨Qb HE.out.symm,HB.out⟩
theorem Zn4(a b:Int)(w:World):Calls Tryz.prog 169 #[.slice (some ⟨w.1.size,0,none⟩) 2 2] (w.alloc (.cells #[.int .i64 a,.int .i64 b] 3)) fun e w'=>e=.returned (.int .i64 (if a≠0 then a else b))/\Below w.1.size w w':=by
 have hb:=heap_alloc_new w (.cells #[.int .i64 a,.int .i64 b] 3);refine(Zn3 a b w.1.size _ (cell_of_row _ _ 0 _ _ _ hb) (cell_of_row _ _ 1 _ _ _ hb)).mono ?_;rintro e w' ⟨he,h⟩;exact⟨he,((Below.refl w.1.size w).alloc (Nat.le_refl _) _).trans (h.mono (by simp))⟩
theorem ZkM(rs:List Int)(n R X:Nat)(i k:Nat)(hi:i<n)(hk:k<n)(_hn:n<=100000)(W:World)(hX:W.cell? ⟨X,0,none⟩=some (.slice (some ⟨R,0,none⟩) n n))(hR:∀j,j<n->W.cell? ⟨R,j,none⟩=some (.string ⟨(Qa (rs.getD j 0)).toArray⟩))(hl:∀j,(Qa (rs.getD j 0)).length<=100000):
 Calls Tryz.prog 168 (#[.int .i64 i,.int .i64 k]++#[.pointer (some ⟨X,0,none⟩)]) W fun e w'=>e=.returned (.int .i64 (ZiY rs i k))/\Below W.1.size W w':=by
 have HCM:=jq (fun w=>QR (Qa (rs.getD k 0)) (Qa (rs.getD i 0)) w (hl k) (hl i));rw[Qc,Qc] at HCM;have HCC:=jq (fun w=>Tryz.cmp_Compare_int i k w);have HRE:=jq (show(if Qt (rs.getD k 0-rs.getD i 0)≠0 then Qt (rs.getD k 0-rs.getD i 0) else Lib.compareInt i k)=ZiY rs i k from rfl);have HON:=jq (fun w=>Zn4 (Qt (rs.getD k 0-rs.getD i 0)) (Lib.compareInt i k) w);rw[HRE.out] at HON;generalize ZiY rs i k=res at*;have z1:=hR i hi;have z2:=hR k hk
 have HZ:=jq (show ∀w',Below W.1.size W w'->w'.cell? ⟨X,0,none⟩=some (.slice (some ⟨R,0,none⟩) n n)/\w'.cell? ⟨R,i,none⟩=some (.string ⟨(Qa (rs.getD i 0)).toArray⟩)/\w'.cell? ⟨R,k,none⟩=some (.string ⟨(Qa (rs.getD k 0)).toArray⟩) from
  fun w' hb=>⟨(hb.cell (World.block_lt_of_cell? W _ hX)).trans hX,(hb.cell (World.block_lt_of_cell? W _ z1)).trans z1,(hb.cell (World.block_lt_of_cell? W _ z2)).trans z2⟩)
 generalize Qt (rs.getD k 0-rs.getD i 0)=aa at*;generalize Lib.compareInt (i:Int) (k:Int)=bb at*;generalize Qa (rs.getD i 0)=ti at*;generalize Qa (rs.getD k 0)=tk at*;clear hR hl HRE;have HB:=jq (Below.refl W.1.size W);have i1:(0:Int)<=(i:Int):=by omega
 have i2:(i:Int)<(n:Int):=by omega
 have k1:(0:Int)<=(k:Int):=by omega
 have k2:(k:Int)<(n:Int):=by omega
 show Calls _ _ #[.int .i64 i,.int .i64 k,.pointer (some ⟨X,0,none⟩)] _ _
 go_enter Tryz.func168,Tryz.ntmps168
 go_upto_region 1 with (fail)
 go_region_held3 (fun w'=>w'.cell? ⟨X,0,none⟩=some (.slice (some ⟨R,0,none⟩) n n)/\w'.cell? ⟨R,i,none⟩=some (.string ⟨ti.toArray⟩)/\w'.cell? ⟨R,k,none⟩=some (.string ⟨tk.toArray⟩))
  (first
    |exact HZ.out _ hz2
    |exact HZ.out _ hz
    |exact HZ.out _ (HB.out.alloc (Nat.le_refl _) _)
    |go_keep)
  (first
    |(go_at_call 50;refine(HCM.out _).mono ?_;rintro e w1 ⟨rfl,hb1⟩;have hz:Below W.1.size W w1:=HB.out.drew.trans hb1)
    |(go_at_call 170;refine(HCC.out _).mono ?_;rintro e w2 ⟨rfl,rfl⟩)
    |(go_at_call 169;refine(HON.out _).mono ?_;rintro e w3 ⟨rfl,hb3⟩;have hz2:Below W.1.size W w3:=hz.trans (hb3.mono hz.size)))
 all_goals
  go_wp2_with fail
  first|go_ret|skip
  exact⟨rfl,hz2⟩
end
section
attribute [local go_sem ↓] Go.wp_at_zero Go.wp_at_succ
theorem Kp.perm{w W:World}{bs bs':List (Nat×Array Value×TypeId)}(h:Kp w bs W)(hp:bs.Perm bs'):Kp w bs' W:=
 ⟨h.pow,h.bl,fun b hb=>h.own b (hp.mem_iff.2 hb),((hp.map (·.1)).pairwise_iff (fun h=>fun e=>h e.symm)).1 h.ord,fun b hb=>h.blk b (hp.mem_iff.2 hb)⟩
theorem Kp.three{w w1:World}(h:Kp w [] w1)(c1 c2 c3:Array Value)(T1 T2 T3:TypeId):
 Kp w [(w1.1.size+1+1,c3,T3),(w1.1.size+1,c2,T2),(w1.1.size,c1,T1)] (((w1.alloc (.cells c1 T1)).alloc (.cells c2 T2)).alloc (.cells c3 T3)).drew:=
 (((h.new _ rfl c1 T1).new _ (by simp) c2 T2).new _ (by simp) c3 T3).drew
section
variable {α:Type} (x y z:α)
theorem ZoA:[x,y,z].Perm [x,z,y]:=.cons x (.swap z y [])
theorem ZoB:[x,y,z].Perm [y,x,z]:=.swap y x [z]
theorem ZoC:[x,y,z].Perm [y,z,x]:=(List.Perm.swap y x [z]).trans (.cons y (.swap z x []))
theorem ZoD:[x,y,z].Perm [z,x,y]:=(List.Perm.cons x (.swap z y [])).trans (.swap z x [y])
theorem ZoE:[x,y,z].Perm [z,y,x]:=((List.Perm.cons x (.swap z y [])).trans (.swap z x [y])).trans (.cons z (.swap y x []))
end
def QA(l:List Int)(n k:Nat):Array Value:=((List.range n).map fun j=>if j<k then Value.string ⟨(Qa (l.getD j 0)).toArray⟩ else .string ⟨#[]⟩).toArray
theorem XL(l:List Int)(n k j:Nat)(hj:j<n):(QA l n k)[j]?=some (if j<k then Value.string ⟨(Qa (l.getD j 0)).toArray⟩ else .string ⟨#[]⟩):=by
 simp[QA,hj]
theorem ZdU(l:List Int)(n k:Nat)(hk:k<n):(QA l n k)[k]?=some (.string ⟨#[]⟩):=by
 rw[XL l n k k hk,if_neg (Nat.lt_irrefl k)]
theorem Zi4(l:List Int)(n k:Nat)(hk:k<n):(QA l n (k+1))[k]?=some (.string ⟨(Qa (l.getD k 0)).toArray⟩):=by
 rw[XL l n (k+1) k hk,if_pos (by omega)]
theorem ZdV(l:List Int)(n k:Nat)(hk:k<n):(QA l n k).setIfInBounds k (.string ⟨(Qa (l.getD k 0)).toArray⟩)=QA l n (k+1):=by
 apply Array.ext_getElem?
 intro i;rw[Array.getElem?_setIfInBounds]
 by_cases hi:i<n
 ·rw[XL l n (k+1) i hi]
  by_cases e:k=i
  ·subst e;rw[if_pos rfl,if_pos (by simpa[QA] using hk),if_pos (by omega)]
  ·rw[if_neg e,XL l n k i hi]
   congr 1
   by_cases h2:i<k
   ·rw[if_pos h2,if_pos (by omega)]
   ·rw[if_neg h2,if_neg (by omega)]
 ·rw[if_neg (by omega),Array.getElem?_eq_none (by simp[QA];omega),Array.getElem?_eq_none (by simp[QA];omega)]
theorem Yv(l:List Int)(n:Nat):madeCells #[.string ⟨#[]⟩] n=QA l n 0:=by
 apply Array.ext_getElem?
 intro i
 by_cases hi:i<n
 ·rw[XL l n 0 i hi];simp[madeCells,hi,Nat.mod_one]
 ·rw[Array.getElem?_eq_none (by simp[madeCells];omega),Array.getElem?_eq_none (by simp[QA];omega)]
def VO(n k:Nat):Array Value:=((List.range n).map fun j=>if j<k then Value.int .i64 (j:Nat) else .int .i64 0).toArray
theorem Zbc(n k j:Nat)(hj:j<n):(VO n k)[j]?=some (if j<k then Value.int .i64 (j:Nat) else .int .i64 0):=by
 simp[VO,hj]
theorem ZkN(n k:Nat)(hk:k<n):(VO n k)[k]?=some (.int .i64 0):=by
 rw[Zbc n k k hk,if_neg (Nat.lt_irrefl k)]
theorem ZkO(n k:Nat)(hk:k<n):(VO n k).setIfInBounds k (.int .i64 (k:Nat))=VO n (k+1):=by
 apply Array.ext_getElem?
 intro i;rw[Array.getElem?_setIfInBounds]
 by_cases hi:i<n
 ·rw[Zbc n (k+1) i hi]
  by_cases e:k=i
  ·subst e;rw[if_pos rfl,if_pos (by simpa[VO] using hk),if_pos (by omega)]
  ·rw[if_neg e,Zbc n k i hi]
   congr 1
   by_cases h2:i<k
   ·rw[if_pos h2,if_pos (by omega)]
   ·rw[if_neg h2,if_neg (by omega)]
 ·rw[if_neg (by omega),Array.getElem?_eq_none (by simp[VO];omega),Array.getElem?_eq_none (by simp[VO];omega)]
theorem Zi5(n:Nat):madeCells #[.int .i64 0] n=VO n 0:=by
 apply Array.ext_getElem?
 intro i
 by_cases hi:i<n
 ·rw[Zbc n 0 i hi];simp[madeCells,hi,Nat.mod_one]
 ·rw[Array.getElem?_eq_none (by simp[madeCells];omega),Array.getElem?_eq_none (by simp[VO];omega)]
theorem ZkP(n:Nat):VO n n=JT (List.range n):=by
 unfold VO JT
 congr 1
 refine List.map_congr_left fun j hj=> ?_
 rw[if_pos (List.mem_range.1 hj)]
theorem ZmD(t:Int){ws:List (List UInt8)}{k:Nat}{x:List UInt8}(h:ws[k]?=some x):(Qw t (ws.map val)).getD k 0=(t*val x).fdiv (Qz ws)/\(QG t (ws.map val)).getD k 0=(t*val x).fmod (Qz ws):=by
 simp[Qw,QG,Qz,List.getD,h]
theorem ZkQ{t:Int}{ns:List Int}(h0:0<=t)(hn:∀x∈ns,0<=x)(hS:0<ns.sum)(k:Nat):0<=((Qw t ns).take k).sum/\((Qw t ns).take k).sum<=t:=by
 have hb:∀b∈Qw t ns,0<=b:=by
  intro b hb;obtain⟨x,hx,rfl⟩:=List.mem_map.1 hb
  exact Int.fdiv_nonneg (Int.mul_nonneg h0 (hn x hx)) (by omega)
 have h1:=QI (l:=(Qw t ns).take k) (fun b hb'=>hb b (List.mem_of_mem_take hb'));have h2:=QI (l:=(Qw t ns).drop k) (fun b hb'=>hb b (List.mem_of_mem_drop hb'));have h3:((Qw t ns).take k).sum+((Qw t ns).drop k).sum=(Qw t ns).sum:=by rw[<-Xe,List.take_append_drop]
 have h4:=YJ t hS;unfold Xk at h4;omega
theorem Zdv{l:List Int}{k:Nat}(hk:k<l.length):(l.take (k+1)).sum=(l.take k).sum+l.getD k 0:=by
 rw[List.take_succ_eq_append_getElem hk,Xe];simp[List.getD,hk]
def upA(l:List Int)(ups:List Nat)(n:Nat):Array Value:=((List.range n).map fun j=>Value.string ⟨(Qa (if j∈ups then l.getD j 0+1 else l.getD j 0)).toArray⟩).toArray
theorem ZeL(l:List Int)(ups:List Nat)(n j:Nat)(hj:j<n):(upA l ups n)[j]?=some (Value.string ⟨(Qa (if j∈ups then l.getD j 0+1 else l.getD j 0)).toArray⟩):=by
 simp[upA,hj]
theorem ZmE(l:List Int)(n:Nat):QA l n n=upA l [] n:=by
 unfold QA upA
 congr 1
 refine List.map_congr_left fun j hj=> ?_
 rw[if_pos (List.mem_range.1 hj),if_neg (by simp)]
theorem ZmF(l:List Int)(ups:List Nat)(n i:Nat)(hi:i<n)(_hu:i ∉ ups):(upA l ups n).setIfInBounds i (.string ⟨(Qa (l.getD i 0+1)).toArray⟩)=upA l (ups++[i]) n:=by
 apply Array.ext_getElem?
 intro j;rw[Array.getElem?_setIfInBounds]
 by_cases hj:j<n
 ·rw[ZeL l (ups++[i]) n j hj]
  by_cases e:i=j
  ·subst e;rw[if_pos rfl,if_pos (by simpa[upA] using hi),if_pos (by simp)]
  ·rw[if_neg e,ZeL l ups n j hj]
   congr 3
   have:j∈ups++[i]↔j∈ups:=by simp;intro h;exact absurd h.symm e
   simp only[this]
 ·rw[if_neg (by omega),Array.getElem?_eq_none (by simp[upA];omega),Array.getElem?_eq_none (by simp[upA];omega)]
theorem ZmG(t:Int)(ns:List Int)(n:Nat)(hn:ns.length=n):upA (Qw t ns) (upL t ns) n=QA (Xs t ns) n n:=by
 unfold QA upA
 congr 1
 refine List.map_congr_left fun j hj=> ?_
 have hj':=List.mem_range.1 hj;rw[if_pos hj'];have h1:=Zfs t ns j (by omega)
 have h2:(Xs t ns).getD j 0=if j∈upL t ns then(Qw t ns).getD j 0+1 else(Qw t ns).getD j 0:=by
  rw[List.getD,h1];simp only[Option.getD_some,Qw,List.getD,List.getElem?_map,List.getElem?_eq_getElem (show j<ns.length by omega),Option.map_some]
 rw[h2]
theorem Zid:(Tryz.prog.info? 24).map (fun i=>(i.zero,i.size,i.bytes))=some (some (.string ⟨#[]⟩),1,16):=by kernel_rfl
theorem ZoF:(Tryz.prog.info? 3).map (fun i=>(i.zero,i.size,i.bytes))=some (some (.int .i64 0),1,8):=by kernel_rfl
theorem ZeM(t:List UInt8)(A:Option Addr)(n c:Nat)(ws:List (List UInt8))(w:World)(hp:Env w)(hs:Yu w w.1.size A n ws)(ht:t.length<=1000)(hl:∀x∈ws,x.length<=1000)(hn0:0<n)(hn:n<=1000)(htc:t=Qa (val t))(h0:0<=val t)(hw0:∀x∈ws,0<=val x)(hS:0<Qz ws):
 Calls Tryz.prog 120 #[S t,.slice A n c] w fun e w'=>∃P,e=.returned (.slice (some ⟨P,0,none⟩) n n)/\BlkB w' P (QA (Xs (val t) (ws.map val)) n n) 24/\w.1.size<=P/\Below w.1.size w w':=by
 have HS:=jq hs;have HL:=jq hl;have H:=jq (Kp.start hp);have HWH:=jq (ZcI A n c ws w hp hs (fun x hx=>by have:=hl x hx;omega) (by omega));have hmk:=run_make_row' (P:=Tryz.prog) 36 24 (.string ⟨#[]⟩) 16 Tryz.underlying36 Zid rfl .i64 .i64 n (by omega) (by omega);have hmi:=run_make_row' (P:=Tryz.prog) 99 3 (.int .i64 0) 8 Tryz.underlying99 ZoF rfl .i64 .i64 n (by omega) (by omega);rw[Yv []] at hmk;rw[Zi5] at hmi;clear hs hl hp;have HTC:=jq htc;clear htc;unfold S at*
 go_enter Tryz.func120,Tryz.ntmps120
 go_wp2_with fail
 refine HWH.out.mono ?_;rintro e w1 ⟨rfl,hb⟩;replace H:=jq (H.out.here hb);clear hb HWH;unfold S;go_upto_region 2 with (fail)
 go_cut [6,7] (fun s u wc=>∃P R X:Nat,s=.slice (some ⟨P,0,none⟩) n n/\u=.pointer (some ⟨X,0,none⟩)/\Hid (Kp w [(P,QA [] n 0,24),(R,QA [] n 0,24),(X,#[.slice (some ⟨R,0,none⟩) n n],36)] wc))
 case first=>
  go_region
  all_goals
   go_wp2_with fail
   go_meet
   have H3:=H.out.three
   first
    |exact⟨_,_,_,rfl,rfl,(H3 _ _ _ _ _ _).perm (ZoA _ _ _)⟩
    |exact⟨_,_,_,rfl,rfl,(H3 _ _ _ _ _ _).perm (ZoB _ _ _)⟩
    |exact⟨_,_,_,rfl,rfl,(H3 _ _ _ _ _ _).perm (ZoC _ _ _)⟩
    |exact⟨_,_,_,rfl,rfl,(H3 _ _ _ _ _ _).perm (ZoD _ _ _)⟩
    |exact⟨_,_,_,rfl,rfl,(H3 _ _ _ _ _ _).perm (ZoE _ _ _)⟩
    |exact⟨_,_,_,rfl,rfl,H3 _ _ _ _ _ _⟩
 case rest=>
 clear H hmk;obtain⟨P,R,X,rfl,rfl,HK⟩:=hcut
 obtain⟨O,hO⟩:∃O,O=wc.1.size:=⟨_,rfl⟩
 have HK2:=jq (HK.out.new O hO (VO n 0) 3);clear HK;go_wp2_with fail
 rw[<-hO];generalize wc.alloc (.cells (VO n 0) 3)=W0 at*;clear hO hmi;have hlen:(ws.map val).length=n:=by rw[List.length_map];exact HS.out.1.symm
 have hsn:0<(ws.map val).sum:=hS;have hn0s:∀x∈ws.map val,0<=x:=by intro x hx;obtain⟨y,hy,rfl⟩:=List.mem_map.1 hx;exact hw0 y hy
 have HPS:=jq (ZkQ (t:=val t) h0 hn0s hsn);have HBA:=jq (fun k x h=>ZmD (val t) (ws:=ws) (k:=k) (x:=x) h);have HUP:=jq (ZmG (val t) (ws.map val) n hlen);have HRB:=jq (XH (val t) hsn);have hbl:(Qw (val t) (ws.map val)).length=n:=by simpa[Qw] using hlen
 have hrl:(QG (val t) (ws.map val)).length=n:=by simpa[QG] using hlen
 have HMU:=jq (fun k (hk:k<n)=>Zdv (l:=Qw (val t) (ws.map val)) (k:=k) (by omega));have HML:=jq (show Xk (val t) (ws.map val)=val t-((Qw (val t) (ws.map val)).take n).sum by unfold Xk;rw[List.take_of_length_le (by omega)])
 have HMC:=jq (show 0<=Xk (val t) (ws.map val)/\Xk (val t) (ws.map val)<=n by
  refine⟨YJ _ hsn,Int.le_trans (YC _ hsn) ?_⟩;have:=List.countP_le_length (p:=fun r:Int=>decide (0<r)) (l:=QG (val t) (ws.map val))
  omega)
 have HUL:=jq (show upL (val t) (ws.map val)=(QT (QG (val t) (ws.map val))).take (Xk (val t) (ws.map val)).toNat from rfl);have e1:=(Yv [] n).symm.trans (Yv (Qw (val t) (ws.map val)) n);have e2:=(Yv [] n).symm.trans (Yv (QG (val t) (ws.map val)) n);generalize Xk (val t) (ws.map val)=ms at*;generalize hps:Xs (val t) (ws.map val)=ps at*;have HPQ:=jq hps;clear hps;generalize upL (val t) (ws.map val)=ups at*;generalize Qw (val t) (ws.map val)=bs at*;generalize QG (val t) (ws.map val)=rs at*;obtain⟨K,hK⟩:∃K:Nat,K=1000:=⟨_,rfl⟩
 rw[<-hK] at ht;have htv:=Qv ht;have hsv:=Zfu (ws:=ws) (L:=K) (fun x hx=>by have:=HL.out x hx;omega);have hsl:=Jc (ws:=ws) (L:=K) (fun x hx=>by have:=HL.out x hx;omega) (by have:=HS.out.1;omega);have HLP:=jq (fun k x (h:ws[k]?=some x)=>Qg (n:=val t*val x) (L:=K+K) (Qs htv (Qv (by have:=HL.out x (List.mem_of_getElem? h);omega))));have HLM:=jq (fun k=>Qg (n:=val t-(bs.take k).sum) (L:=K) (by have:=HPS.out k;omega));have HK3:=jq (show Kp w [(O,VO n 0,3),(P,QA bs n 0,24),(R,QA rs n 0,24),(X,#[Value.slice (some ⟨R,0,none⟩) n n],36)] W0 by rw[<-e1,<-e2];exact HK2.out)
 have HLR:=jq (show ∀j,(Qa (rs.getD j 0)).length<=100000 from fun j=>by
  have hb:0<=rs.getD j 0/\rs.getD j 0<=Qz ws:=by
   rw[List.getD_eq_getElem?_getD]
   cases hj:rs[j]? with
   |none=>exact⟨Int.le_refl _,Int.le_of_lt hS⟩
   |some r=>have:=HRB.out r (List.mem_of_getElem? hj);exact⟨this.1,Int.le_of_lt this.2⟩
  have h10:1000*10^K<10^(K+4):=by rw[Nat.pow_add];have:1<=10^K:=Nat.pow_pos (by omega);omega
  have hn2:ws.length*10^K<=1000*10^K:=Nat.mul_le_mul_right _ (by have:=HS.out.1;omega);have:=Qg (n:=rs.getD j 0) (L:=K+4) (by omega)
  omega)
 have HLB:=jq (show ∀q,q<n->(Qa (bs.getD q 0)).length<=100000 from fun q hq=>by
  have h1:=HPS.out q;have h2:=HPS.out (q+1);rw[HMU.out q hq] at h2;have:=Qg (n:=bs.getD q 0) (L:=K) (by omega)
  omega)
 have hK2:=hK;clear htv hsv e1 e2 HK2 h0 hw0 hsn hn0s
 go_loopw [9,10,11,30] (fun m _ _ i wr=>∃k:Nat,k<=n/\m=.string ⟨(Qa (val t-(bs.take k).sum)).toArray⟩/\i=.int .i64 k/\Hid (Kp w [(O,VO n k,3),(P,QA bs n k,24),(R,QA rs n k,24),(X,#[Value.slice (some ⟨R,0,none⟩) n n],36)] wr)) (fun _ _ _ i _=>n-(intOf i).toNat)
 case atStart=>exact⟨0,Nat.zero_le _,(by rw[List.take_zero,List.sum_nil,Int.sub_zero,<-HTC.out]),rfl,HK3⟩
 case round=>
  clear HK3;obtain⟨k,hk,rfl,rfl,H⟩:=hrel
  by_cases hlt:k<n
  ·obtain⟨b,off,x,rfl,hb,hx,d0⟩:=(HS.out.below H.out.bl).st hlt
   have HX:=jq hx;clear hx;obtain⟨hb1,hb2⟩:=HBA.out k x HX.out
   have HMUL:=jq (fun W hp=>Yd t x W hp (by omega) (by have:=HL.out x (List.mem_of_getElem? HX.out);omega));have HDV:=jq (fun W hp=>(Zao (Qa (val t*val x)) (Qa (Qz ws)) W hp (by have:=HLP.out k x HX.out;omega) (by omega)).mono fun e w' h=>Va (by rw[Qc];omega) h);rw[Qc,Qc,<-hb1,<-hb2] at HDV
   have HSU:=jq (fun W hp=>Zh3 (Qa (val t-(bs.take k).sum)) (Qa (bs.getD k 0)) W hp (by have:=HLM.out k;omega) (by
    have h1:=HPS.out k;have h2:=HPS.out (k+1);rw[HMU.out k hlt] at h2;have:=Qg (n:=bs.getD k 0) (L:=K) (by have:=Qv ht;omega)
    omega))
   rw[Qc,Qc,show val t-(bs.take k).sum-bs.getD k 0=val t-(bs.take (k+1)).sum by rw[HMU.out k hlt];omega] at HSU;clear hb1 hb2;generalize Qa (val t-(bs.take k).sum)=tm at*;generalize htm2:Qa (val t-(bs.take (k+1)).sum)=tm2 at*;have HTM2:=jq htm2;clear htm2;generalize Qa (val t*val x)=tp at*;have HPA:=jq (ZdV bs n k hlt);have HRA:=jq (ZdV rs n k hlt);have HIA:=jq (ZkO n k hlt);have HPO2:=jq (Zi4 bs n k hlt);have HPN:=jq (ZdU bs n k hlt);have HRN:=jq (ZdU rs n k hlt);have HIN:=jq (ZkN n k hlt);generalize Qa (bs.getD k 0)=tb at*;generalize Qa (rs.getD k 0)=tr at*;generalize Qa (Qz ws)=tsum at*;unfold S at HMUL HDV HSU;have nPR:=H.out.ne 1 2 rfl rfl (by decide);have nRP:=H.out.ne 2 1 rfl rfl (by decide);have i1:(0:Int)<=(k:Int):=by omega
   have i2:(k:Int)<(n:Int):=by omega
   go_upto_region 8 with (fail)
   go_cut [] (fun w9=>Hid (Kp w [(O,VO n k,3),(P,QA bs n (k+1),24),(R,QA rs n (k+1),24),(X,#[Value.slice (some ⟨R,0,none⟩) n n],36)] w9))
   case first=>
    have x0:wr.cell? ⟨X,0,none⟩=some (.slice (some ⟨R,0,none⟩) n n):=H.out.c 3 0 rfl rfl;clear d0 HS HL HTC HPS HMU HML HUP HRB HUL HBA HLP HLM hsl ht hK hK2 HX HMC HSU HPO2 HIN HIA hb hlen hbl hrl hS hn hn0 hk hlt
    go_region_held3 (fun w'=>w'.cell? ⟨X,0,none⟩=some (.slice (some ⟨R,0,none⟩) n n))
     (first
       |with_reducible exact k2
       |with_reducible exact k3
       |with_reducible exact k4 _
       |with_reducible exact k5 _
       |with_reducible exact k6 _ _
       |go_keep)
     (first
       |(go_at_call 110;refine(HMUL.out _ H.out.drew.po).mono ?_;rintro e w2 ⟨rfl,hb2⟩;unfold S;have hz:Below wr.1.size wr w2:=(Below.refl _ wr).drew.trans hb2;have k2:w2.cell? ⟨X,0,none⟩=some (.slice (some ⟨R,0,none⟩) n n):=(H.out.here hz).c 3 0 rfl rfl)
       |(go_at_call 63;refine(HDV.out _ (H.out.here hz).po).mono ?_;rintro e w3 ⟨rfl,hb3⟩;have hz2:Below wr.1.size wr w3:=hz.trans (hb3.mono hz.size);have g1:=(H.out.here hz2).f 1 k rfl;have g2:=(H.out.here hz2).f 2 k rfl;have p1:=(H.out.here hz2).c 1 k rfl HPN.out;have p2:=(H.out.here hz2).c 2 k rfl HRN.out;have k3:w3.cell? ⟨X,0,none⟩=some (.slice (some ⟨R,0,none⟩) n n):=(H.out.here hz2).c 3 0 rfl rfl;have k4:∀v,(w3.setCell ⟨P,k,none⟩ v).cell? ⟨X,0,none⟩=some (.slice (some ⟨R,0,none⟩) n n):=(fun v=>((H.out.here hz2).set 1 k rfl v).c 3 0 rfl rfl);have k5:∀v,(w3.setCell ⟨R,k,none⟩ v).cell? ⟨X,0,none⟩=some (.slice (some ⟨R,0,none⟩) n n):=(fun v=>((H.out.here hz2).set 2 k rfl v).c 3 0 rfl rfl);have k6:∀u v,((w3.setCell ⟨P,k,none⟩ u).setCell ⟨R,k,none⟩ v).cell? ⟨X,0,none⟩=some (.slice (some ⟨R,0,none⟩) n n):=(fun u v=>(((H.out.here hz2).set 1 k rfl u).set 2 k rfl v).c 3 0 rfl rfl)))
    all_goals
     go_wp2_with fail
     go_meet
     first
      |(have h9:Kp w [(O,VO n k,3),(P,(QA bs n k).setIfInBounds k (.string ⟨tb.toArray⟩),24),(R,(QA rs n k).setIfInBounds k (.string ⟨tr.toArray⟩),24),(X,#[Value.slice (some ⟨R,0,none⟩) n n],36)] _:=((H.out.here hz2).set 1 k rfl (.string ⟨tb.toArray⟩)).set 2 k rfl (.string ⟨tr.toArray⟩)
        rw[HPA.out,HRA.out] at h9;exact h9)
      |(have h9:Kp w [(O,VO n k,3),(P,(QA bs n k).setIfInBounds k (.string ⟨tb.toArray⟩),24),(R,(QA rs n k).setIfInBounds k (.string ⟨tr.toArray⟩),24),(X,#[Value.slice (some ⟨R,0,none⟩) n n],36)] _:=((H.out.here hz2).set 2 k rfl (.string ⟨tr.toArray⟩)).set 1 k rfl (.string ⟨tb.toArray⟩)
        rw[HPA.out,HRA.out] at h9;exact h9)
   case rest=>
   clear H HMUL HDV HPA HRA HPN HRN nPR nRP d0 HX;have H:=hcut;clear hcut;have p1:wc.cell? ⟨P,k,none⟩=some (.string ⟨tb.toArray⟩):=H.out.c 1 k rfl HPO2.out;go_wp2_with fail
   refine(HSU.out _ H.out.po).mono ?_;rintro e w10 ⟨rfl,hb10⟩;replace H:=jq (H.out.here hb10);clear hb10 p1;have q1:w10.cell? ⟨O,k,none⟩=some (.int .i64 0):=H.out.c 0 k rfl HIN.out;have g1:=H.out.f 0 k rfl
   have H9:=jq (show Kp w [(O,VO n (k+1),3),(P,QA bs n (k+1),24),(R,QA rs n (k+1),24),(X,#[Value.slice (some ⟨R,0,none⟩) n n],36)] (w10.setCell ⟨O,k,none⟩ (.int .i64 (k:Nat))) by
    have h9:Kp w [(O,(VO n k).setIfInBounds k (.int .i64 (k:Nat)),3),(P,QA bs n (k+1),24),(R,QA rs n (k+1),24),(X,#[Value.slice (some ⟨R,0,none⟩) n n],36)] _:=H.out.set 0 k rfl (.int .i64 (k:Nat));rw[HIA.out] at h9;exact h9)
   go_wp2_with fail
   go_roundw
   case rel=>exact⟨k+1,by omega,(by rw[HTM2.out];rfl),by go_num,H9⟩
   case measure=>simp[intOf];omega
  ·obtain rfl:k=n:=by omega
   clear HMU HBA HLP HLM HPS;have hO:=H.out.at_ 0 rfl;rw[ZkP] at hO;have hX:=H.out.c 3 0 rfl rfl;have hRR:=H.out.at_ 2 rfl
   have HSO:=jq (show Calls Tryz.prog 167 #[.slice (some ⟨O,0,none⟩) k k,.func (.func 168) #[] #[.pointer (some ⟨X,0,none⟩)]] wr fun e w'=>e=.returned (.tuple #[])/\wr.grownBy w' (some O)/\BlkB w' O (JT (QT rs)) 3 from
    ZkL Tryz.sortI 168 #[.pointer (some ⟨X,0,none⟩)] rs k O k wr 3 hrl hn0 (by omega) (enters_of Tryz.func168 (by kernel_rfl) rfl) hO
     (fun W' hg x y hx hy=>ZkM rs k R X x y hx hy (by omega) W'
       ((World.cell?_of_block (hg.block X (H.out.lt 3 rfl) (fun e=>H.out.ne 3 0 rfl rfl (by decide) (by injection e)))).trans hX)
       (fun j hj=>(World.cell?_of_block (hg.block R (H.out.lt 2 rfl) (fun e=>H.out.ne 2 0 rfl rfl (by decide) (by injection e)))).trans (hRR.cell j (by rw[XL rs k k j hj,if_pos hj])))
       HLR.out))
   clear hO hX hRR;obtain⟨m,hm⟩:∃m:Nat,ms=(m:Int):=⟨ms.toNat,by have:=HMC.out;omega⟩
   have hmk:m<=k:=by have:=HMC.out;omega
   have HSM:=jq (Zi3 m (by omega));rw[<-HML.out,hm];rw[hm,Int.toNat_natCast] at HUL;have HOL:=jq (show(QT rs).length=k by rw[Xf];exact hrl);have HON:=jq (Vo rs);have HOM:=jq (show ∀q∈QT rs,q<k from fun q hq=>by have:=Jb.1 hq;omega);clear HML HMC hm;generalize QT rs=os at*;generalize Qa (m:Int)=tm at*;unfold S at HSM;go_wp2_with fail
   refine HSO.out.mono ?_;rintro e w2 ⟨rfl,hg2,hB2⟩;have H2:=jq (H.out.grown (i:=0) hg2 rfl hB2);clear hg2 hB2 H HSO;go_wp2_with fail
   refine(HSM.out _ H2.out.pw).mono ?_;rintro e w3 ⟨rfl,hb3⟩;have H3:=jq (H2.out.here hb3);clear hb3 H2 HSM;have i1:(0:Int)<=(m:Int):=by omega
   have i2:(m:Int)<=(k:Int):=by omega
   have HK3:=jq (show Kp w [(O,JT os,3),(P,upA bs (os.take 0) k,24),(R,QA rs k k,24),(X,#[Value.slice (some ⟨R,0,none⟩) k k],36)] w3 by
    rw[List.take_zero,<-ZmE];exact H3.out)
   have HIV:=jq (show ∀(j q:Nat),os[j]?=some q->(JT os)[j]?=some (Value.int .i64 (q:Nat)) from fun j q h=>by simp[JT,h]);clear H3 HTC HL HS HRB HLR hS hlen hrl hsl ht hK hK2;go_wp2_with fail
   go_loopw [15,73] (fun _ j wr=>∃q:Nat,q<=m/\j=.int .i64 q/\Hid (Kp w [(O,JT os,3),(P,upA bs (os.take q) k,24),(R,QA rs k k,24),(X,#[Value.slice (some ⟨R,0,none⟩) k k],36)] wr)) (fun _ j _=>m-(intOf j).toNat)
   case atStart=>exact⟨0,Nat.zero_le _,rfl,HK3⟩
   case round=>
    clear HK3;obtain⟨q,hq,rfl,H⟩:=hrel
    by_cases hlt:q<m
    ·have hqo:q<os.length:=by have:=HOL.out;omega
     have hoq:os[q]?=some os[q]:=List.getElem?_eq_getElem hqo;have hqk:os[q]<k:=HOM.out _ (List.getElem_mem hqo)
     have hnt:os[q] ∉ os.take q:=fun hm=>by
      obtain⟨j,hj,e⟩:=List.mem_take_iff_getElem.1 hm
      exact(List.pairwise_iff_getElem.1 HON.out) j q (by omega) hqo (by omega) (by simpa using e)
     have HTS:=jq (show os.take (q+1)=os.take q++[os[q]] from List.take_succ_eq_append_getElem hqo);have hcO:=H.out.c 0 q rfl (HIV.out q _ hoq);generalize os[q]=z at*;have HG:=jq (show(upA bs (os.take q) k)[z]?=some (.string ⟨(Qa (bs.getD z 0)).toArray⟩) by rw[ZeL bs (os.take q) k z hqk,if_neg hnt]);have HSE:=jq (ZmF bs (os.take q) k z hqk hnt);rw[<-HTS.out] at HSE;have HAD:=jq (fun W hp=>VF (Qa (bs.getD z 0)) [49] W hp (HLB.out z hqk) (by simp));rw[Qc,XS] at HAD;have hcP:=H.out.c 1 z rfl HG.out;unfold S at HAD;generalize Qa (bs.getD z 0)=tz at*;generalize Qa (bs.getD z 0+1)=tz1 at*;have z1:(0:Int)<=(z:Int):=by omega
     have z2:(z:Int)<(k:Int):=by omega
     clear hoq hnt HTS;go_wp2_with fail
     refine(HAD.out _ H.out.po).mono ?_;rintro e w4 ⟨rfl,hb4⟩;unfold S;replace H:=jq (H.out.here hb4);clear hb4 hcO hcP;have g1:=H.out.f 1 z rfl;have hcP:=H.out.c 1 z rfl HG.out
     have H9:=jq (show Kp w [(O,JT os,3),(P,upA bs (os.take (q+1)) k,24),(R,QA rs k k,24),(X,#[Value.slice (some ⟨R,0,none⟩) k k],36)] (w4.setCell ⟨P,z,none⟩ (.string ⟨tz1.toArray⟩)) by
      have h9:Kp w [(O,JT os,3),(P,(upA bs (os.take q) k).setIfInBounds z (.string ⟨tz1.toArray⟩),24),(R,QA rs k k,24),(X,#[Value.slice (some ⟨R,0,none⟩) k k],36)] _:=H.out.set 1 z rfl (.string ⟨tz1.toArray⟩);rw[HSE.out] at h9;exact h9)
     go_wp2_with fail
     go_roundw
     case rel=>exact⟨q+1,by omega,by go_num,H9⟩
     case measure=>simp[intOf];omega
    ·obtain rfl:q=m:=by omega
     have hF:=H.out.at_ 1 rfl;rw[<-HUL.out,HUP.out] at hF;have HF:=jq hF;have hold:=H.out.old 1 rfl;clear hF;go_wp2_with fail
     first|go_ret|skip
     exact⟨P,rfl,by rw[HPQ.out];exact HF.out,hold,H.out.bl⟩
end
section
def Jr(l:List Int)(n:Nat)(w:World)(e:Ending)(w':World):Prop:=∃P,e=.returned (.slice (some ⟨P,0,none⟩) n n)/\BlkB w' P (QA l n n) 24/\w.1.size<=P/\Below w.1.size w w'
def YS(l:List Int)(n:Nat)(r:Int)(w:World)(e:Ending)(w':World):Prop:=∃P,e=.returned (.tuple #[.slice (some ⟨P,0,none⟩) n n,.int .i64 r])/\BlkB w' P (QA l n n) 24/\w.1.size<=P/\Below w.1.size w w'
theorem ZfX(t:List UInt8)(A:Option Addr)(n c:Nat)(ws:List (List UInt8))(w:World)(hp:Env w)(hs:Yu w w.1.size A n ws)(ht:t.length<=1000)(hl:∀x∈ws,x.length<=1000)(hn0:0<n)(hn:n<=1000)(htc:t=Qa (val t))(h0:0<=val t)(hw0:∀x∈ws,0<=val x)(hS:0<Qz ws):
 Calls Tryz.prog 69 #[S t,.slice A n c] w (Jr (Xs (val t) (ws.map val)) n w):=by
 have HNG:=jq (Zaz t (by omega));rw[show decide (val t<0)=false by simpa using h0] at HNG;have HPS:=jq (fun W (hb:Below w.1.size w W)=>ZeM t A n c ws W (hp.here hb) (hs.here hb) ht hl hn0 hn htc h0 hw0 hS);have HPO:=jq (show ∀e w',Jr (Xs (val t) (ws.map val)) n w e w'=∃P,e=.returned (.slice (some ⟨P,0,none⟩) n n)/\BlkB w' P (QA (Xs (val t) (ws.map val)) n n) 24/\w.1.size<=P/\Below w.1.size w w' from fun _ _=>rfl);generalize Jr (Xs (val t) (ws.map val)) n w=post at*;have H:=jq (Kp.start hp);generalize Xs (val t) (ws.map val)=ps at*;clear hp hs ht hl hn0 hn htc h0 hw0 hS;unfold S at*
 go_enter Tryz.func69,Tryz.ntmps69
 go_wp2_with fail
 refine(HNG.out _ H.out.pw).mono ?_;rintro e w1 ⟨rfl,hb⟩;replace H:=jq (H.out.here hb);clear hb;go_wp2_with fail
 refine(HPS.out _ H.out.bl).mono ?_;rintro e w2 ⟨P,rfl,hB,hP,hb⟩;have HB:=jq hB;clear hB;go_wp2_with fail
 first|go_ret|skip
 rw[HPO.out];exact⟨P,rfl,HB.out,by have:=H.out.bl.size;omega,(H.out.here hb).bl⟩
theorem Zi6(t:List UInt8)(A:Option Addr)(n c:Nat)(ws:List (List UInt8))(w:World)(hp:Env w)(hs:Yu w w.1.size A n ws)(ht:t.length<=1000)(hl:∀x∈ws,x.length<=1000)(hn0:0<n)(hn:n<=1000)(htc:t=Qa (val t))(h0:0<=val t)(hw0:∀x∈ws,0<=val x)(hS:0<Qz ws)(hc:QN t ws=0):
 Calls Tryz.prog 26 #[S t,.slice A n c] w (YS (Xs (val t) (ws.map val)) n 0 w):=by
 have HCK:=jq (ZcJ t A n c ws w hp hs (by omega) (fun x hx=>by have:=hl x hx;omega) (by omega));rw[hc] at HCK;have HPS:=jq (fun W (hb:Below w.1.size w W)=>ZfX t A n c ws W (hp.here hb) (hs.here hb) ht hl hn0 hn htc h0 hw0 hS);have HPO:=jq (show ∀e w',YS (Xs (val t) (ws.map val)) n 0 w e w'=∃P,e=.returned (.tuple #[.slice (some ⟨P,0,none⟩) n n,.int .i64 0])/\BlkB w' P (QA (Xs (val t) (ws.map val)) n n) 24/\w.1.size<=P/\Below w.1.size w w' from fun _ _=>rfl);generalize YS (Xs (val t) (ws.map val)) n 0 w=post at*;have H:=jq (Kp.start hp);generalize Xs (val t) (ws.map val)=ps at*;clear hp hs ht hl hn0 hn htc h0 hw0 hS hc;unfold S at*
 go_enter Tryz.func26,Tryz.ntmps26
 go_wp2_with fail
 refine HCK.out.mono ?_;rintro e w1 ⟨rfl,hb⟩;replace H:=jq (H.out.here hb);clear hb;go_wp2_with fail
 refine(HPS.out _ H.out.bl).mono ?_;rintro e w2 ⟨P,rfl,hB,hP,hb⟩;have HB:=jq hB;clear hB;go_wp2_with fail
 first|go_ret2|skip
 rw[HPO.out];exact⟨P,rfl,HB.out,by have:=H.out.bl.size;omega,(H.out.here hb).bl⟩
theorem Zi7(t:List UInt8)(A:Option Addr)(n c:Nat)(ws:List (List UInt8))(w:World)(hp:Env w)(hs:Yu w w.1.size A n ws)(ht:t.length<=1000)(hl:∀x∈ws,x.length<=1000)(hn:n<=1000000)(hc:QN t ws≠0):
 Calls Tryz.prog 26 #[S t,.slice A n c] w fun e w'=>e=.returned (.tuple #[.slice none 0 0,.int .i64 (QN t ws)])/\Below w.1.size w w':=by
 have HCK:=jq (ZcJ t A n c ws w hp hs (by omega) (fun x hx=>by have:=hl x hx;omega) (by omega));generalize QN t ws=r at*;have hr:(r !=0)=true:=by simpa using hc
 clear hp hs ht hl hn hc;unfold S at*
 go_enter Tryz.func26,Tryz.ntmps26
 go_wp2_with fail
 refine HCK.out.mono ?_;rintro e w1 ⟨rfl,hb⟩;go_wp2_with fail
 first|go_ret2|skip
 exact⟨rfl,hb⟩
end
section
theorem Zi8(f:Fr)(hf:f.Sz 20000):XB 51 #[Qq f] (.int .i64 (QK f.rat 0)):=by
 intro w hp;have H:=jq ((Kp.start hp).new w.1.size rfl #[.string ⟨f.n.toArray⟩,.string ⟨f.d.toArray⟩] 26);have HCM:=jq (fun W hp=>Ye f Fr.zero W hp hf ⟨by simp[Fr.zero],by simp[Fr.zero]⟩);rw[VX] at HCM;generalize QK f.rat 0=z at*;have x0:(w.alloc (.cells #[.string ⟨f.n.toArray⟩,.string ⟨f.d.toArray⟩] 26)).cell? ⟨w.1.size,0,none⟩=some (.string ⟨f.n.toArray⟩):=H.out.c 0 0 rfl rfl;have x1:(w.alloc (.cells #[.string ⟨f.n.toArray⟩,.string ⟨f.d.toArray⟩] 26)).cell? ⟨w.1.size,1,none⟩=some (.string ⟨f.d.toArray⟩):=H.out.c 0 1 rfl rfl;unfold Qq S at*
 unfold Fr.zero at*
 clear hp hf;go_enter Tryz.func51,Tryz.ntmps51
 go_wp2_with fail
 generalize w.alloc _=W at*;refine(HCM.out _ H.out.po).mono ?_;rintro e w1 ⟨rfl,hb⟩;go_wp2_with fail
 first|go_ret|skip
 exact⟨rfl,(H.out.here hb).bl⟩
end
section
attribute [local go_sem ↓] Go.wp_at_zero Go.wp_at_succ
theorem Zbd(k:Int):Qd (k:Rat)=⟨Qa k,[]⟩:=by
 unfold Qd;rw[Rat.num_intCast,Rat.den_intCast,if_pos rfl]
theorem ZmH{f:Fr}{L:Nat}(h:f.Sz L)(hL:1<=L):(Qa (QW f.rat)).length<=L+2:=by
 have h1:=Zcq h hL;have h2:=Zeq f.rat;have h3:10^L+1<10^(L+1):=by rw[Nat.pow_succ];have:10^1<=10^L:=Nat.pow_le_pow_right (by omega) hL;omega
 exact Qg (L:=L+1) (by have:=h1.1;omega)
theorem Kp.fr{w W:World}{bs:List (Nat×Array Value×TypeId)}{p i:Nat}{f:Fr}{T:TypeId}(h:Kp w bs W)(hb:bs[i]?=some (p,#[.string ⟨f.n.toArray⟩,.string ⟨f.d.toArray⟩],T)):
 W.cell? ⟨p,0,none⟩=some (.string ⟨f.n.toArray⟩)/\W.cell? ⟨p,1,none⟩=some (.string ⟨f.d.toArray⟩):=⟨h.c i 0 hb rfl,h.c i 1 hb rfl⟩
theorem Zhc(f:Fr)(hf:f.Sz 5000):XB 52 #[Qq f] (.tuple #[S (Qa (QW f.rat)),Qq (Qd (f.rat-((QW f.rat:Int):Rat)))]):=by
 intro w hp;have H:=jq (((Kp.start hp).new w.1.size rfl #[.string ⟨f.n.toArray⟩,.string ⟨f.d.toArray⟩] 26).new (w.1.size+1) (by simp) #[.string ⟨#[]⟩,.string ⟨#[]⟩] 26);have hfl:=ZmH hf (by omega);have HFL:=jq (ZiV f (hf.more (by omega)));have HOF:=jq (fun W hp=>Zch (Qa (QW f.rat)) W hp (by omega));rw[Qc] at HOF;have HSU:=jq (fun W hp=>ZcB f (Qd ((QW f.rat:Int):Rat)) W hp (hf.more (by omega)) (by rw[Zbd];exact⟨by show(Qa _).length<=_;omega,by simp⟩));rw[Qj] at HSU;generalize Qa (QW f.rat)=t at*;generalize Qd (f.rat-((QW f.rat:Int):Rat))=res at*;generalize Qd ((QW f.rat:Int):Rat)=g at*;have x0:=H.out.c 1 0 rfl rfl;have x1:=H.out.c 1 1 rfl rfl;unfold Qq at*
 unfold S at*
 clear hp hf hfl;go_enter Tryz.func52,Tryz.ntmps52
 go_wp2_with fail
 generalize (w.alloc (.cells #[.string ⟨f.n.toArray⟩,.string ⟨f.d.toArray⟩] 26)).alloc (.cells #[.string ⟨#[]⟩,.string ⟨#[]⟩] 26)=W at*;refine(HFL.out _ H.out.pw).mono ?_;rintro e w1 ⟨rfl,hb⟩;replace H:=jq (H.out.here hb);clear hb x0 x1;have x0:=H.out.c 1 0 rfl rfl;have x1:=H.out.c 1 1 rfl rfl;go_wp2_with fail
 go_region_held3 (fun w'=>w'.cell? ⟨w.1.size,0,none⟩=some (.string ⟨f.n.toArray⟩)/\w'.cell? ⟨w.1.size,1,none⟩=some (.string ⟨f.d.toArray⟩))
  (first
    |exact k2
    |exact k3
    |exact k4 _ _
    |go_keep)
  (first
    |(go_at_call 25;refine(HOF.out _ H.out.drew.po).mono ?_;rintro e w2 ⟨rfl,hb2⟩;unfold Qq S;have hz:Below w1.1.size w1 w2:=(Below.refl _ w1).drew.trans hb2;have k2:=(H.out.here hz).fr (f:=f) (i:=1) rfl)
    |(go_at_call 40;refine(HSU.out _ (H.out.here hz).po).mono ?_;rintro e w3 ⟨rfl,hb3⟩;unfold Qq S;have hz2:Below w1.1.size w1 w3:=hz.trans (hb3.mono hz.size);have k3:=(H.out.here hz2).fr (f:=f) (i:=1) rfl;have n0:=(H.out.here hz2).c 0 0 rfl rfl;have n1:=(H.out.here hz2).c 0 1 rfl rfl;have g0:=(H.out.here hz2).f 0 0 rfl;have g1:=(H.out.here hz2).f 0 1 rfl;have k4:=(fun u v=>(((H.out.here hz2).set 0 0 rfl u).set 0 1 rfl v).fr (f:=f) (i:=1) rfl)))
 all_goals
  go_wp2_with fail
  refine bodyPost_ret (v:=.tuple #[.string ⟨t.toArray⟩,.agg #[.string ⟨res.n.toArray⟩,.string ⟨res.d.toArray⟩]]) (by simp[results,Tryz.results52,go_sem,n0,n1]) rfl ?_;exact⟨rfl,(((H.out.here hz2).set 0 0 rfl _).set 0 1 rfl _).bl⟩
end
section
attribute [local go_sem ↓] Go.wp_at_zero Go.wp_at_succ
def YA(q:Rat)(w:World)(e:Ending)(w':World):Prop:=e=.returned (.tuple #[S (Qa (QW q)),Qq (Qd (q-((QW q:Int):Rat))),.int .i64 0])/\Below w.1.size w w'
theorem Zl8(q:List UInt8)(f:Fr)(w:World)(hp:Env w)(hq:q=Qa (val q))(hql:q.length<=200)(hf:f.ok)(hfz:f.Sz 200)(h0:0<=val q)(h1:0<f.rat):
 Calls Tryz.prog 18 #[S q,Qq f] w (YA (((val q:Int):Rat)*f.rat) w):=by
 have HPO:=jq (show YA (((val q:Int):Rat)*f.rat) w=fun e w'=>e=.returned (.tuple #[S (Qa (QW (((val q:Int):Rat)*f.rat))),Qq (Qd (((val q:Int):Rat)*f.rat-((QW (((val q:Int):Rat)*f.rat):Int):Rat))),.int .i64 0])/\Below w.1.size w w' from rfl);generalize YA (((val q:Int):Rat)*f.rat) w=post at*;have HIC:=jq (Yt q (by omega));rw[if_pos hq] at HIC;have HFC:=jq (fun W hW=>ZaN f W hW (hfz.more (by omega)));rw[show Vb f=0 from if_pos hf] at HFC;have HCM:=jq (fun W=>QR q [] W (by omega) (by simp));rw[Xr,Int.sub_zero] at HCM
 have hs0:decide (Qt (val q)<0)=false:=by
  unfold Qt;rw[if_neg (by omega)]
  split<;>decide
 have HSG:=jq (Zi8 f (hfz.more (by omega)))
 have hs1:decide (QK f.rat 0<=0)=false:=by
  unfold QK;rw[if_neg (Rat.not_lt.2 (Rat.le_of_lt h1)),if_pos h1];decide
 have hqv:=Qv hql;have HOF:=jq (fun W hW=>Zch q W hW (by omega));have hz1:(Qd ((val q:Int):Rat)).Sz 201:=by rw[Zbd];exact⟨Qg hqv,by simp⟩
 have HMU:=jq (fun W hW=>Za6 (Qd ((val q:Int):Rat)) f W hW (hz1.more (by omega)) (hfz.more (by omega)));rw[Qj] at HMU
 have hz2:(Qd (((val q:Int):Rat)*f.rat)).Sz 1000:=by
  have:=QV (ZgI (hz1.more (show 201<=201 by omega)) (hfz.more (show 200<=201 by omega)) (by omega))
  rw[Qj] at this;exact this.more (by omega)
 have HWH:=jq (Zhc (Qd (((val q:Int):Rat)*f.rat)) (hz2.more (by omega)));rw[Qj] at HWH;have H:=jq (show Kp w [(w.1.size+1,#[.string ⟨#[]⟩,.string ⟨#[]⟩],26),(w.1.size,#[.string ⟨f.n.toArray⟩,.string ⟨f.d.toArray⟩],26)] ((w.alloc (.cells #[.string ⟨f.n.toArray⟩,.string ⟨f.d.toArray⟩] 26)).alloc (.cells #[.string ⟨#[]⟩,.string ⟨#[]⟩] 26)) from((Kp.start hp).new w.1.size rfl _ _).new (w.1.size+1) (by simp) _ _);generalize QK f.rat 0=z1 at*;generalize Qt (val q)=z0 at*;generalize Qd (((val q:Int):Rat)*f.rat-((QW (((val q:Int):Rat)*f.rat):Int):Rat))=pt at*;generalize Qa (QW (((val q:Int):Rat)*f.rat))=tn at*;generalize Qd (((val q:Int):Rat)*f.rat)=fm at*;generalize Qd ((val q:Int):Rat)=fq at*;have hs0i:¬z0<0:=by simpa using hs0
 have hs1i:¬z1<=0:=by simpa using hs1
 clear hp hq hql hf hfz h0 h1 hqv hz1 hz2;unfold Qq S at*
 go_enter Tryz.func18,Tryz.ntmps18
 go_wp2_with fail
 generalize ((w.alloc (.cells #[.string ⟨f.n.toArray⟩,.string ⟨f.d.toArray⟩] 26)).alloc (.cells #[.string ⟨#[]⟩,.string ⟨#[]⟩] 26))=W0 at*;refine(HIC.out _ H.out.pw).mono ?_;rintro e w1 ⟨rfl,hb1⟩;have H1:=jq (H.out.here hb1);clear hb1 H;have x0:=H1.out.c 1 0 rfl rfl;have x1:=H1.out.c 1 1 rfl rfl;go_wp2_with fail
 refine(HFC.out _ H1.out.po).mono ?_;rintro e w2 ⟨rfl,hb2⟩;have H2:=jq (H1.out.here hb2);clear hb2 H1 x0 x1;go_wp2_with fail
 refine(HCM.out _).mono ?_;rintro e w3 ⟨rfl,hb3⟩;have H3:=jq (H2.out.here hb3);clear hb3 H2;have x0:=H3.out.c 1 0 rfl rfl;have x1:=H3.out.c 1 1 rfl rfl;go_wp2_with fail
 refine(HSG.out _ H3.out.pw).mono ?_;rintro e w4 ⟨rfl,hb4⟩;have H4:=jq (H3.out.here hb4);clear hb4 H3 x0 x1;go_upto_region 5 with (fail)
 have HRT:=jq (show ∀X bs i,Kp w bs X->bs[i]?=some (w.1.size,#[.string ⟨f.n.toArray⟩,.string ⟨f.d.toArray⟩],26)->X.cell? ⟨w.1.size,0,none⟩=some (.string ⟨f.n.toArray⟩)/\X.cell? ⟨w.1.size,1,none⟩=some (.string ⟨f.d.toArray⟩) from fun X bs i h hb=>⟨h.c i 0 hb rfl,h.c i 1 hb rfl⟩);have HPA:=jq ((H4.out.new w4.1.size rfl #[.string ⟨#[]⟩,.string ⟨#[]⟩] 26).drew)
 go_cut [7,8] (fun s p wc=>s=.string ⟨tn.toArray⟩/\∃P8,p=.pointer (some ⟨P8,0,none⟩)/\Hid (Kp w ((P8,#[.string ⟨pt.n.toArray⟩,.string ⟨pt.d.toArray⟩],26)::[(w.1.size+1,#[.string ⟨#[]⟩,.string ⟨#[]⟩],26),(w.1.size,#[.string ⟨f.n.toArray⟩,.string ⟨f.d.toArray⟩],26)]) wc))
 case first=>
  obtain⟨s00,s01⟩:=HRT.out _ _ 1 H4.out rfl
  have s0a:=HRT.out _ _ 2 HPA.out rfl
  go_region_held3 (fun X=>X.cell? ⟨w.1.size,0,none⟩=some (.string ⟨f.n.toArray⟩)/\X.cell? ⟨w.1.size,1,none⟩=some (.string ⟨f.d.toArray⟩))
   (first
     |with_reducible exact s4
     |with_reducible exact s3a
     |with_reducible exact s3
     |with_reducible exact s2a
     |with_reducible exact s2
     |with_reducible exact s1a
     |with_reducible exact s1
     |with_reducible exact s0a
     |go_keep)
   (first
     |(go_at_call 25;first
        |(refine(HOF.out _ H4.out.drew.po).mono ?_;rintro e y1 ⟨rfl,hy⟩;try unfold Qq S
          have g1:=H4.out.drew.here hy;have s1:=HRT.out _ _ 1 g1 rfl;have g1a:=g1.new y1.1.size rfl #[.string ⟨#[]⟩,.string ⟨#[]⟩] 26;have s1a:=HRT.out _ _ 2 g1a rfl)
        |(refine(HOF.out _ HPA.out.po).mono ?_;rintro e y1 ⟨rfl,hy⟩;try unfold Qq S
          have g1:=HPA.out.here hy;have s1:=HRT.out _ _ 2 g1 rfl))
     |(go_at_call 24;first
        |(refine(HMU.out _ g1.po).mono ?_;rintro e y2 ⟨rfl,hy⟩;try unfold Qq S
          have g2:=g1.here hy)
        |(refine(HMU.out _ g1a.po).mono ?_;rintro e y2 ⟨rfl,hy⟩;try unfold Qq S
          have g2:=g1a.here hy)
       first
        |(have s2:=HRT.out _ _ 1 g2 rfl
          have g2a:=g2.new y2.1.size rfl #[.string ⟨#[]⟩,.string ⟨#[]⟩] 26;have s2a:=HRT.out _ _ 2 g2a rfl)
        |(have s2:=HRT.out _ _ 2 g2 rfl))
     |(go_at_call 52;first
        |(refine(HWH.out _ g2.pw).mono ?_;rintro e y3 ⟨rfl,hy⟩;try unfold Qq S
          have g3:=g2.here hy)
        |(refine(HWH.out _ g2a.pw).mono ?_;rintro e y3 ⟨rfl,hy⟩;try unfold Qq S
          have g3:=g2a.here hy)
       first
        |(have s3:=HRT.out _ _ 1 g3 rfl
          have g3a:=g3.new y3.1.size rfl #[.string ⟨#[]⟩,.string ⟨#[]⟩] 26;have s3a:=HRT.out _ _ 2 g3a rfl;have g4:=(g3a.set 0 0 rfl (.string ⟨pt.n.toArray⟩)).set 0 1 rfl (.string ⟨pt.d.toArray⟩);have s4:=HRT.out _ _ 2 g4 rfl)
        |(have s3:=HRT.out _ _ 2 g3 rfl
          have n0:=g3.c 0 0 rfl rfl;have n1:=g3.c 0 1 rfl rfl;have f0:=g3.f 0 0 rfl;have f1:=g3.f 0 1 rfl;have g4:=(g3.set 0 0 rfl (.string ⟨pt.n.toArray⟩)).set 0 1 rfl (.string ⟨pt.d.toArray⟩);have s4:=HRT.out _ _ 2 g4 rfl)))
  all_goals
   go_wp2_with fail
   go_meet
   first
    |exact⟨rfl,_,rfl,g4⟩
    |exact⟨rfl,_,rfl,g3.new _ rfl _ _⟩
 case rest=>
 obtain⟨rfl,P8,rfl,H5⟩:=hcut
 clear H4 HPA HRT;have k0:=H5.out.c 0 0 rfl rfl;have k1:=H5.out.c 0 1 rfl rfl;have n0:=H5.out.c 1 0 rfl rfl;have n1:=H5.out.c 1 1 rfl rfl;have f0:=H5.out.f 1 0 rfl;have f1:=H5.out.f 1 1 rfl;have HE:=jq (((H5.out.set 1 0 rfl (.string ⟨pt.n.toArray⟩)).set 1 1 rfl (.string ⟨pt.d.toArray⟩)).drew);obtain⟨r0,r1⟩:_/\_:=⟨HE.out.c 0 0 rfl rfl,HE.out.c 0 1 rfl rfl⟩
 have m0:=HE.out.c 1 0 rfl rfl;have m1:=HE.out.c 1 1 rfl rfl;go_upto_region 6 with (fail)
 go_region_held3 (fun X=>X.cell? ⟨P8,0,none⟩=some (.string ⟨pt.n.toArray⟩)/\X.cell? ⟨P8,1,none⟩=some (.string ⟨pt.d.toArray⟩))
  (first
    |with_reducible exact⟨r0,r1⟩
    |go_keep)
  (fail)
 all_goals
  go_wp2_with fail
  refine bodyPost_ret (v:=.tuple #[.string ⟨tn.toArray⟩,.agg #[.string ⟨pt.n.toArray⟩,.string ⟨pt.d.toArray⟩],.int .i64 0]) (by simp[results,Tryz.results18,go_sem,m0,m1]) rfl ?_;rw[HPO.out];exact⟨rfl,HE.out.bl⟩
end
section
theorem Zgv{α:Type}(l:List α)(z:α)(k:Nat){x:α}(hk:l[k]?=some x):(l.take k++List.replicate (l.length-k) z).set k x=l.take (k+1)++List.replicate (l.length-(k+1)) z:=by
 obtain⟨h,rfl⟩:=List.getElem?_eq_some_iff.1 hk
 have e:(l.take k).length=k:=by rw[List.length_take];omega
 rw[List.set_append_right _ _ (by omega),e,Nat.sub_self,show l.length-k=(l.length-(k+1))+1 by omega,List.replicate_succ,List.set_cons_zero,List.take_succ_eq_append_getElem h,List.append_assoc];rfl
theorem Zgw{α:Type}(l:List α)(z:α)(k:Nat)(hk:k<l.length):(l.take k++List.replicate (l.length-k) z)[k]?=some z:=by
 have e:(l.take k).length=k:=by rw[List.length_take];omega
 rw[List.getElem?_append_right (by omega),e,Nat.sub_self,List.getElem?_replicate,if_pos (by omega)]
def txA(l:List Int):Array Value:=(l.map fun x=>Value.string ⟨(Qa x).toArray⟩).toArray
theorem Zbo{l:List Int}{i:Nat}{x:Int}(h:l[i]?=some x):(txA l)[i]?=some (.string ⟨(Qa x).toArray⟩):=by
 simp[txA,h]
theorem Ziv(l:List Int)(i:Nat)(y:Int):(txA l).setIfInBounds i (.string ⟨(Qa y).toArray⟩)=txA (l.set i y):=by
 unfold txA
 apply Array.ext'
 simp[List.map_set]
theorem Zgx(n:Nat):madeCells #[.string ⟨#[]⟩] n=txA (List.replicate n 0):=by
 apply Array.ext_getElem?
 intro i
 by_cases hi:i<n
 ·rw[Zbo (x:=0) (by rw[List.getElem?_replicate,if_pos hi])];simp[madeCells,hi,Nat.mod_one]
  rfl
 ·rw[Array.getElem?_eq_none (by simp[madeCells];omega),Array.getElem?_eq_none (by simp[txA];omega)]
theorem Zdi(l:List Int)(n:Nat)(hn:l.length=n):txA l=QA l n n:=by
 apply Array.ext_getElem?
 intro i
 by_cases hi:i<n
 ·rw[XL l n n i hi,if_pos hi,Zbo (x:=l.getD i 0) (by simp[List.getD,show i<l.length by omega])]
 ·rw[Array.getElem?_eq_none (by simp[txA];omega),Array.getElem?_eq_none (by simp[QA];omega)]
def Yn(l:List Rat):Array Value:=(l.flatMap fun q=>[Value.string ⟨(Qd q).n.toArray⟩,.string ⟨(Qd q).d.toArray⟩]).toArray
theorem Zfc(q:Rat):([Value.string ⟨(Qd q).n.toArray⟩,.string ⟨(Qd q).d.toArray⟩]:List Value).length=2:=rfl
theorem Zae{l:List Rat}{i:Nat}{q:Rat}(h:l[i]?=some q):(Yn l)[i*2]?=some (.string ⟨(Qd q).n.toArray⟩):=by
 unfold Yn;rw[List.getElem?_toArray,show i*2=i*2+0 from rfl];exact ZaY (k:=2) Zfc l i 0 q _ h rfl
theorem Zaf{l:List Rat}{i:Nat}{q:Rat}(h:l[i]?=some q):(Yn l)[i*2+1]?=some (.string ⟨(Qd q).d.toArray⟩):=by
 unfold Yn;rw[List.getElem?_toArray];exact ZaY (k:=2) Zfc l i 1 q _ h rfl
theorem Ziw(l:List Rat)(i:Nat)(q:Rat):((Yn l).setIfInBounds (i*2) (.string ⟨(Qd q).n.toArray⟩)).setIfInBounds (i*2+1) (.string ⟨(Qd q).d.toArray⟩)=Yn (l.set i q):=by
 unfold Yn
 apply Array.ext'
 simp only[Array.toList_setIfInBounds]
 induction l generalizing i with
 |nil=>simp
 |cons a l ih=>
  cases i with
  |zero=>simp
  |succ i=>
   have:=ih i
   simp only[List.flatMap_cons,List.set_cons_succ,List.cons_append,List.nil_append,show(i+1)*2=i*2+1+1 by omega];rw[this]
theorem Zma(n:Nat):madeCells #[.string ⟨#[]⟩,.string ⟨#[]⟩] (n*2)=Yn (List.replicate n 0):=by
 apply Array.ext_getElem?
 intro i
 by_cases hi:i<n*2
 ·have h2:i/2<n:=by omega
  have hg:(List.replicate n (0:Rat))[i/2]?=some 0:=by rw[List.getElem?_replicate,if_pos h2]
  rcases Nat.mod_two_eq_zero_or_one i with h|h
  ·have e:(Yn (List.replicate n 0))[i]?=some (.string ⟨(Qd 0).n.toArray⟩):=by
    have:=Zae hg
    rwa [show i/2*2=i by omega] at this
   rw[e,Zal];simp[madeCells,hi,h,Fr.zero]
  ·have e:(Yn (List.replicate n 0))[i]?=some (.string ⟨(Qd 0).d.toArray⟩):=by
    have:=Zaf hg
    rwa [show i/2*2+1=i by omega] at this
   rw[e,Zal];simp[madeCells,hi,h,Fr.zero]
 ·rw[Array.getElem?_eq_none (by simp[madeCells];omega),Array.getElem?_eq_none];unfold Yn;rw[List.size_toArray,VP Zfc,List.length_replicate];omega
end
section
def PSt(t:Int)(ws:List Int)(j:Nat):List Int:=Zdh (Qw t ws) ((QT (QG t ws)).take j)
def RSt(t:Int)(ws:List Int)(j:Nat):List Rat:=ZaV ws.sum (QG t ws) ((QT (QG t ws)).take j)
theorem Zix(t:Int)(ws:List Int)(j:Nat):(PSt t ws j).length=ws.length:=by simp[PSt,Zdh,Qw]
theorem Ziy(t:Int)(ws:List Int)(j:Nat):(RSt t ws j).length=ws.length:=by simp[RSt,ZaV,QG]
theorem Zmb(t:Int)(ws:List Int):PSt t ws 0=Qw t ws:=by
 unfold PSt Zdh;refine List.ext_getElem? fun i=> ?_
 simp
theorem Zmc(t:Int)(ws:List Int):RSt t ws 0=(QG t ws).map (fun r=>Rat.divInt r ws.sum):=by
 unfold RSt ZaV;refine List.ext_getElem? fun i=> ?_
 simp
theorem Zmd(t:Int)(ws:List Int):PSt t ws (Xk t ws).toNat=Xs t ws:=rfl
theorem ZnE{t:Int}{ws:List Int}(hS:0<ws.sum){j:Nat}(hj:j<ws.length):Zbn (RSt t ws j)<ws.length:=by
 have hl:(QG t ws).length=ws.length:=by simp[QG]
 unfold RSt;rw[Zdg hS (XH t hS) (by omega)];have:=Jb.1 (List.getElem_mem (l:=QT (QG t ws)) (n:=j) (by rw[Xf];omega))
 omega
theorem ZnF{t:Int}{ws:List Int}(hS:0<ws.sum){j:Nat}(hj:j<ws.length):
 (PSt t ws j).set (Zbn (RSt t ws j)) ((PSt t ws j).getD (Zbn (RSt t ws j)) 0+1)=PSt t ws (j+1)/\(RSt t ws j).set (Zbn (RSt t ws j)) ((RSt t ws j).getD (Zbn (RSt t ws j)) 0-1)=RSt t ws (j+1):=by
 have hl:(QG t ws).length=ws.length:=by simp[QG]
 have hb:(Qw t ws).length=(QG t ws).length:=by simp[QG,Qw]
 unfold RSt PSt;rw[Zdg hS (XH t hS) (by omega)];exact⟨ZjP hb (by omega) rfl,ZjO (by omega) rfl⟩
theorem Ziz{t:Int}{ws:List Int}(hS:0<ws.sum):(Xk t ws).toNat<=ws.length:=by
 have h1:=YC t hS;have h2:(QG t ws).countP (fun r=>decide (0<r))<=(QG t ws).length:=List.countP_le_length;have hl:(QG t ws).length=ws.length:=by simp[QG]
 omega
theorem Zag{t:Int}{ws:List Int}(h0:0<=t)(hw:∀w∈ws,0<=w)(hS:0<ws.sum):∀b∈Qw t ws,0<=b/\b<=t:=by
 intro b hb;obtain⟨w,hwm,rfl⟩:=List.mem_map.1 hb
 have h1:=hw w hwm;refine⟨Int.fdiv_nonneg (Int.mul_nonneg h0 h1) (Int.le_of_lt hS),?_⟩;have h2:=Zcb hw hwm;have h3:=Int.mul_fdiv_add_fmod (t*w) ws.sum;have h4:=Int.fmod_nonneg_of_pos (t*w) hS;have h5:t*w<=t*ws.sum:=Int.mul_le_mul_of_nonneg_left h2 h0;rw[Int.mul_comm t ws.sum] at h5;exact Int.le_of_mul_le_mul_left (by omega:ws.sum*(t*w).fdiv ws.sum<=ws.sum*t) hS
theorem Zon{t:Int}{ws:List Int}(h0:0<=t)(hw:∀w∈ws,0<=w)(hS:0<ws.sum)(j i:Nat):0<=(PSt t ws j).getD i 0/\(PSt t ws j).getD i 0<=t+1:=by
 by_cases hi:i<(Qw t ws).length
 ·have hb:=Zag h0 hw hS _ (List.getElem_mem hi)
  have e:(PSt t ws j).getD i 0=if i∈(QT (QG t ws)).take j then(Qw t ws)[i]+1 else(Qw t ws)[i]:=by
   unfold PSt Zdh;rw[List.getD_eq_getElem?_getD,List.getElem?_mapIdx,List.getElem?_eq_getElem hi];rfl
  rw[e]
  split<;>omega
 ·have e:(PSt t ws j).getD i 0=0:=by
   rw[List.getD_eq_getElem?_getD,List.getElem?_eq_none]
   ·rfl
   ·rw[Zix];simp only[Qw,List.length_map] at hi;omega
  omega
theorem Zgy(r:Int){S:Int}(hS:0<S):Rat.divInt r S-1=Rat.divInt (r-S) S:=by
 rw[show(1:Rat)=Rat.divInt 1 1 from rfl,Rat.divInt_sub_divInt _ _ (by omega) (by omega)]
 congr 1<;>omega
theorem Zoo{t:Int}{ws:List Int}{L:Nat}(hS:0<ws.sum)(hL:ws.sum.natAbs<10^L)(hL1:1<=L)(j i:Nat):RB L ((RSt t ws j).getD i 0):=by
 by_cases hi:i<(QG t ws).length
 ·have hb:=XH t hS _ (List.getElem_mem hi);have e:(QG t ws).getD i 0=(QG t ws)[i]:=by rw[List.getD_eq_getElem?_getD,List.getElem?_eq_getElem hi];rfl
  have hg:=YU (S:=ws.sum) (rs:=QG t ws) (T:=(QT (QG t ws)).take j) hi;unfold RSt;rw[hg,e]
  split
  ·rw[Zgy _ hS];exact RB.divInt (by omega) hL (by omega)
  ·exact RB.divInt (by omega) hL (by omega)
 ·have e:(RSt t ws j).getD i 0=0:=by
   rw[List.getD_eq_getElem?_getD,List.getElem?_eq_none]
   ·rfl
   ·rw[Ziy];simp only[QG,List.length_map] at hi;omega
  rw[e];have:1<10^L:=Nat.one_lt_pow (by omega) (by omega)
  exact⟨by show 0<_;omega,by show 1<_;omega⟩
theorem Zme(t w:Int){S:Int}(hS:0<S):QW (Rat.divInt (t*w) S)=(t*w).fdiv S/\Rat.divInt (t*w) S-((QW (Rat.divInt (t*w) S):Int):Rat)=Rat.divInt ((t*w).fmod S) S:=by
 have h1:QW (Rat.divInt (t*w) S)=(t*w).fdiv S:=(Za1 _ _ (by omega)).symm;refine⟨h1,?_⟩;rw[h1,<-XU ((t*w).fdiv S),Rat.divInt_sub_divInt _ _ (by omega) (by omega)];have h3:=Int.mul_fdiv_add_fmod (t*w) S
 congr 1
 ·rw[Int.mul_one,Int.mul_comm _ S];omega
 ·omega
theorem ZjQ{ws:List Int}(hw:∀w∈ws,0<=w)(hS:0<ws.sum):Xs 0 ws=ws.map (fun _=>0):=by
 refine List.ext_getElem? fun i=> ?_
 by_cases hi:i<ws.length
 ·have hp:i<(Xs 0 ws).length:=by rw[XX];exact hi
  have hb:=JI (Int.le_refl 0) hw hS (List.getElem?_eq_getElem hp) (List.getElem?_eq_getElem hi);have hs:=Zft 0 hS
  have hz:=Zes (l:=Xs 0 ws) (by
   intro x hx;obtain⟨k,hk⟩:=List.getElem?_of_mem hx
   have hk2:=(List.getElem?_eq_some_iff.1 hk).1;rw[XX] at hk2;exact(JI (Int.le_refl 0) hw hS hk (List.getElem?_eq_getElem hk2)).1) hs
  rw[List.getElem?_eq_getElem hp,hz _ (List.getElem_mem hp)];simp[hi]
 ·rw[List.getElem?_eq_none (by rw[XX];omega),List.getElem?_eq_none (by simp;omega)]
end
section
theorem ZhI{W:World}{p n:Nat}{l:List Int}(h:BlkB W p (QA l n n) 24)(hn:l.length=n):Yu W W.1.size (some ⟨p,0,none⟩) n (l.map Qa):=by
 refine⟨by rw[List.length_map,hn],fun _=>⟨p,0,rfl,h.lt,fun j z hj k u hk=> ?_⟩⟩;obtain⟨hj1,hj2⟩:=List.getElem?_eq_some_iff.1 hj
 rw[List.length_map] at hj1;have hk0:k=0:=by have:=(List.getElem?_eq_some_iff.1 hk).1;rw[Vu] at this;omega
 subst hk0;have hu:u=.string ⟨z.toArray⟩:=by simpa[S1,S] using hk.symm
 have hz:z=Qa (l.getD j 0):=by
  rw[<-hj2,List.getElem_map,List.getD_eq_getElem?_getD,List.getElem?_eq_getElem hj1];rfl
 rw[hu,hz,Nat.zero_add,Nat.mul_one,Nat.add_zero];exact h.cell j (by rw[XL _ _ _ _ (by omega),if_pos (by omega)])
end
end Go.Proofs.YtkddgeclncafoaaGreatDoor
