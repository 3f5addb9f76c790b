/- Rp6, Rq5, Rq6s. -/
import Derived.Test.YtkddgeclncafoaaGreatDoorQGEn40
import Derived.Test.YtkddgeclncafoaaGreatDoorQGEn42
set_option maxRecDepth 100000
set_option maxHeartbeats 10000000
namespace Go.Proofs.YtkddgeclncafoaaGreatDoor
open Go.Lib renaming hid→jq
open Go.RowKit Go.Shelf
section
theorem Zmf(l:List Int):Qz (l.map Qa)=l.sum:=by
 unfold Qz;rw[List.map_map,show(val ∘ Qa)=id from funext fun n=>Qc n,List.map_id]
theorem Zei{α:Type}{l:List α}{k:Nat}{x:α}(d:α)(h:l[k]?=some x):l.getD k d=x:=by rw[List.getD_eq_getElem?_getD,h];rfl
theorem Zfe{t w:Int}{ns:List Int}{K:Nat}(hK:1<=K)(hK2:K<=2000)(h0:0<=t)(hw:∀w∈ns,0<=w)(hS:0<ns.sum)(ht:t.natAbs<10^K)(hs:ns.sum.natAbs<10^K){k:Nat}(hk:ns[k]?=some w):
 (∀W,Calls Tryz.prog 126 #[Qq (Qd (Rat.divInt (t*w) ns.sum))] W (Qh (Qd (Rat.divInt (t*w) ns.sum)) W))/\
 (∀W,Calls Tryz.prog 59 #[Qq (Qd (Rat.divInt (t*w) ns.sum))] W (Qo (Qa ((Qw t ns).getD k 0)) W))/\
 (∀W,Calls Tryz.prog 33 #[S (Qa ((Qw t ns).getD k 0))] W (Qh (Qd (((Qw t ns).getD k 0:Int):Rat)) W))/\
 (∀W,Calls Tryz.prog 60 #[Qq (Qd (Rat.divInt (t*w) ns.sum)),Qq (Qd (((Qw t ns).getD k 0:Int):Rat))] W (Qh (Qd ((RSt t ns 0).getD k 0)) W)):=by
 have hwk:=hw w (List.mem_of_getElem? hk);have hwS:=Zcb hw (List.mem_of_getElem? hk);have hq:RB (K+K) (Rat.divInt (t*w) ns.sum):=RB.divInt (Qs ht (by omega)) (Nat.lt_of_lt_of_le hs (Nat.pow_le_pow_right (by omega) (by omega))) (by omega);have z1:=QV hq;have hq0:0<=Rat.divInt (t*w) ns.sum:=Rat.divInt_nonneg (Int.mul_nonneg h0 hwk) (Int.le_of_lt hS);obtain⟨i1,i2⟩:=Zme t w hS
 have hb:(Qw t ns).getD k 0=(t*w).fdiv ns.sum:=by
  apply Zei
  simp[Qw,hk]
 have hr:(RSt t ns 0).getD k 0=Rat.divInt ((t*w).fmod ns.sum) ns.sum:=by
  rw[Zmc]
  apply Zei
  simp[QG,hk]
 rw[hb,hr,<-i2,i1];have hfl:=ZhE hq (by omega);rw[i1] at hfl;have l1:=Qg hfl;have z2:(Qd (((t*w).fdiv ns.sum:Int):Rat)).Sz (K+K+1+1):=QV (ZaU hfl (by omega));refine⟨fun W=>Zeg _ W (z1.more (by omega)) (by rw[Qj];exact hq0),fun W=> ?_,fun W=> ?_,fun W=> ?_⟩
 ·have h:=Jw (Qd (Rat.divInt (t*w) ns.sum)) W (z1.more (by omega));rw[Qj,i1] at h;exact h
 ·have h:=VH (Qa ((t*w).fdiv ns.sum)) W (by omega);rw[Qc] at h;exact h
 ·have h:=Zbl (Qd (Rat.divInt (t*w) ns.sum)) (Qd (((t*w).fdiv ns.sum:Int):Rat)) W (z1.more (by omega)) (z2.more (by omega));rw[Qj,Qj] at h;exact h
theorem Zff{t:Int}{ns:List Int}{K:Nat}(hK:1<=K)(hK2:K<=2000)(h0:0<=t)(hw:∀w∈ns,0<=w)(hS:0<ns.sum)(ht:t.natAbs<10^K)(hl:ns.length<=1000):
 (∀W,Calls Tryz.prog 33 #[S (Qa t)] W (Qh (Qd (t:Rat)) W))/\
 (∀W,Calls Tryz.prog 126 #[Qq (Qd (t:Rat))] W (Qh (Qd (t:Rat)) W))/\
 (∀W,Calls Tryz.prog 59 #[Qq (Qd (t:Rat))] W (Qo (Qa t) W))/\
 (∀W P,BlkB W P (txA (Qw t ns)) 24->Calls Tryz.prog 128 #[.slice (some ⟨P,0,none⟩) ns.length ns.length] W (Qo (Qa (Qw t ns).sum) W))/\
 (∀W,Calls Tryz.prog 102 #[S (Qa t),S (Qa (Qw t ns).sum)] W (Qo (Qa (Xk t ns)) W))/\
 (∀W,Calls Tryz.prog 127 #[S (Qa (Xk t ns))] W fun e w'=>e=.returned (.tuple #[.int .i64 (Xk t ns),.bool true])/\W=w'):=by
 have l1:=Qg ht;have z1:(Qd (t:Rat)).Sz (K+1):=QV (ZaU ht hK);have hm0:=YJ t hS;have hm1:=Ziz (t:=t) hS;have hbs:(Qw t ns).sum=t-Xk t ns:=by unfold Xk;omega
 have hbn:0<=(Qw t ns).sum:=QI (fun b hb=>(Zag h0 hw hS b hb).1);have l2:=Qg (n:=(Qw t ns).sum) (L:=K) (by omega);refine⟨fun W=> ?_,fun W=>Zeg _ W (z1.more (by omega)) (by rw[Qj];exact_mod_cast h0),fun W=> ?_,fun W P hP=> ?_,fun W=> ?_,fun W=> ?_⟩
 ·have h:=VH (Qa t) W (by omega);rw[Qc] at h;exact h
 ·have h:=Jw (Qd (t:Rat)) W (z1.more (by omega));rw[Qj,show QW ((t:Int):Rat)=t by unfold QW;simp] at h;exact h
 ·have hlen:(Qw t ns).length=ns.length:=by simp[Qw]
  rw[Zdi _ _ hlen] at hP
  have h:=ZbQ (some ⟨P,0,none⟩) ns.length ns.length ((Qw t ns).map Qa) W (ZhI hP hlen) (by
   intro x hx;obtain⟨b,hb,rfl⟩:=List.mem_map.1 hx
   have hbb:=Zag h0 hw hS b hb;have:=Qg (n:=b) (L:=K) (by omega)
   omega) (by omega)
  rw[Zmf] at h;exact h
 ·have h:=Zk7 (Qa t) (Qa (Qw t ns).sum) W (by omega) (by omega);rw[Qc,Qc] at h;exact h
 ·have hml:(Qa (Xk t ns)).length<=17:=by
   have:=Qg (n:=Xk t ns) (L:=4) (by omega)
   omega
  have h:=Zhi (Qa (Xk t ns)) W hml (by rw[Zca,Qc];simp;omega);rw[Qc] at h;exact h
theorem Zfg{t:Int}{ns:List Int}{K:Nat}(hK:1<=K)(hK2:K<=2000)(h0:0<=t)(hw:∀w∈ns,0<=w)(hS:0<ns.sum)(ht:t.natAbs<10^K)(hs:ns.sum.natAbs<10^K):
 (∀j i k W,Calls Tryz.prog 58 #[Qq (Qd ((RSt t ns j).getD i 0)),Qq (Qd ((RSt t ns j).getD k 0))] W (Qn (QK ((RSt t ns j).getD i 0) ((RSt t ns j).getD k 0)) W))/\
 (∀j i W,Calls Tryz.prog 29 #[S (Qa ((PSt t ns j).getD i 0)),.string ⟨#[49]⟩] W (Qo (Qa ((PSt t ns j).getD i 0+1)) W))/\
 (∀W,Calls Tryz.prog 33 #[.string ⟨#[49]⟩] W (Qh (Qd 1) W))/\
 (∀j i W,Calls Tryz.prog 60 #[Qq (Qd ((RSt t ns j).getD i 0)),Qq (Qd 1)] W (Qh (Qd ((RSt t ns j).getD i 0-1)) W)):=by
 have z:=fun j i=>QV (Zoo (t:=t) hS hs hK j i)
 have z1:(Qd 1).Sz 20:=by rw[show(1:Rat)=((1:Int):Rat) from rfl,Zbd];exact⟨by decide+kernel,by simp⟩
 refine⟨fun j i k W=> ?_,fun j i W=> ?_,fun W=> ?_,fun j i W=> ?_⟩
 ·have h:=Xh (Qd ((RSt t ns j).getD i 0)) (Qd ((RSt t ns j).getD k 0)) W ((z j i).more (by omega)) ((z j k).more (by omega));rw[Qj,Qj] at h;exact h
 ·have hp:=Zon h0 hw hS j i
  have hpk:((PSt t ns j).getD i 0).natAbs<10^(K+1):=by
   have:10^K*10=10^(K+1):=(Nat.pow_succ ..).symm
   have:1<=10^K:=Nat.one_le_pow _ _ (by omega)
   omega
  have l:=Qg hpk;have h:=Yi (Qa ((PSt t ns j).getD i 0)) [49] W (by omega) (by simp);rw[Qc,XS] at h;exact h
 ·have h:=VH [49] W (by simp);rw[XS] at h;exact h
 ·have h:=Zbl (Qd ((RSt t ns j).getD i 0)) (Qd 1) W ((z j i).more (by omega)) (z1.more (by omega));rw[Qj,Qj] at h;exact h
end
section
attribute [local go_sem ↓] Go.wp_at_zero Go.wp_at_succ
theorem ZoZ:(Tryz.prog.info? 26).map (fun i=>(i.zero,i.size,i.bytes))=some (some (.agg #[.string ⟨#[]⟩,.string ⟨#[]⟩]),2,32):=by kernel_rfl
theorem Zgz(n:Nat)(hn:n<=1000000)(w:World):(Instr.makeSlice 68 (.int .i64 (n:Int)) (.int .i64 (n:Int))).run Tryz.prog w=.ok (.slice (some ⟨w.1.size,0,none⟩) n n) (w.alloc (.cells (Yn (List.replicate n 0)) 26)):=by
 obtain⟨i,hi,hzz⟩:=Option.map_eq_some_iff.1 ZoZ
 simp only[Prod.mk.injEq] at hzz;obtain⟨hz,hs,hb⟩:=hzz
 have h:=run_make (P:=Tryz.prog) w 68 26 i _ Tryz.underlying68 hi hz .i64 .i64 n n (by omega) (by omega) (by rw[hb];omega) (by omega);rw[hs] at h;simp only[Int.toNat_natCast] at h;rw[show madeCells (Value.agg #[.string ⟨#[]⟩,.string ⟨#[]⟩]).cells (n*2)=Yn (List.replicate n 0) from Zma n] at h;exact h
theorem Kp.two{w w1:World}(h:Kp w [] w1)(c1 c2:Array Value)(T1 T2:TypeId):
 Kp w [(w1.1.size+1,c2,T2),(w1.1.size,c1,T1)] ((w1.alloc (.cells c1 T1)).alloc (.cells c2 T2)).drew:=((h.new _ rfl c1 T1).new _ (by simp) c2 T2).drew
theorem Zop{t:List UInt8}{ws:List (List UInt8)}{k:Nat}{x:Fr}(h:(idl t ws)[k]?=some x):∃v,(ws.map val)[k]?=some v/\x=Qd (Rat.divInt (val t*v) (ws.map val).sum):=by
 unfold idl at h;rw[List.getElem?_map,Option.map_eq_some_iff] at h;obtain⟨a,ha,rfl⟩:=h
 exact⟨val a,by simp[ha],rfl⟩
theorem Zdj(rs:List Rat):Xo rs 1=0:=by
 show(if rs.getD 0 0<rs.getD 0 0 then 0 else 0)=0
 split<;>rfl
theorem ZbR(rs:List Rat):∀k,1<=k->Xo rs k<k
 |0,h=>absurd h (by omega)
 |1,_=>by rw[Zdj];omega
 |k+2,_=>by
  have:=ZbR rs (k+1) (by omega)
  show(if rs.getD (Xo rs (k+1)) 0<rs.getD (k+1) 0 then k+1 else Xo rs (k+1))<k+2
  split<;>omega
theorem ZhJ(t:List UInt8)(A:Option Addr)(n c:Nat)(ws:List (List UInt8))(w:World)(hp:Env w)(hs:Yu w w.1.size A n ws)(ht:t.length<=1000)(hl:∀x∈ws,x.length<=1000)(hn0:0<n)(hn:n<=1000)(htc:t=Qa (val t))(h0:0<=val t)(hw0:∀x∈ws,0<=val x)(hS:0<Qz ws)(hc:QN t ws=0):
 Calls Tryz.prog 75 #[S t,.slice A n c] w (YS (Xs (val t) (ws.map val)) n 0 w):=by
 have HPO:=jq (show ∀e w',YS (Xs (val t) (ws.map val)) n 0 w e w'=∃P,e=.returned (.tuple #[.slice (some ⟨P,0,none⟩) n n,.int .i64 0])/\BlkB w' P (QA (Xs (val t) (ws.map val)) n n) 24/\w.1.size<=P/\Below w.1.size w w' from fun _ _=>rfl);generalize YS (Xs (val t) (ws.map val)) n 0 w=post at*;have HID:=jq (fun W (hb:Below w.1.size w W)=>ZhH t A n c ws W (hs.here hb) ht hl hn hc);have hlen:(ws.map val).length=n:=by rw[List.length_map];exact hs.1.symm
 have hsn:0<(ws.map val).sum:=hS;have hn0s:∀x∈ws.map val,0<=x:=by intro x hx;obtain⟨y,hy,rfl⟩:=List.mem_map.1 hx;exact hw0 y hy
 obtain⟨L,hL⟩:∃L:Nat,L=1000:=⟨_,rfl⟩
 have htv:(val t).natAbs<10^(L+4):=Qv (by omega);have hsv:(ws.map val).sum.natAbs<10^(L+4):=Zol (L:=L) (fun a ha=>Qv (by have:=hl a ha;omega)) (by have:=hs.1;omega);obtain⟨K,hK⟩:∃K:Nat,K=L+4:=⟨_,rfl⟩
 rw[<-hK] at htv hsv;have HC1:=jq (fun k v (hk:(ws.map val)[k]?=some v)=>Zfe (by omega) (by omega) h0 hn0s hsn htv hsv hk);have HC2:=jq (Zff (K:=K) (by omega) (by omega) h0 hn0s hsn htv (by omega));have HC3:=jq (Zfg (K:=K) (by omega) (by omega) h0 hn0s hsn htv hsv);have HBL:=jq (fun j (hj:j<n)=>ZnE (t:=val t) hsn (j:=j) (by omega));have HNX:=jq (fun j (hj:j<n)=>ZnF (t:=val t) hsn (j:=j) (by omega));have hM:=Ziz (t:=val t) hsn;have hm0:=YJ (val t) hsn;have HPL:=jq (fun j=>Zix (val t) (ws.map val) j);have HRL:=jq (fun j=>Ziy (val t) (ws.map val) j);have HP0:=jq (Zmb (val t) (ws.map val));have HPM:=jq (Zmd (val t) (ws.map val));have HIA:=jq (fun k x (h:(idl t ws)[k]?=some x)=>Zop h);have HTC:=jq htc;have HNG:=jq (fun W=>Zac t W (by omega));rw[show decide (val t<0)=false by simpa using h0] at HNG;have hbl:(Qw (val t) (ws.map val)).length=n:=by simpa[Qw] using hlen
 have hmk:=run_make_row' (P:=Tryz.prog) 36 24 (.string ⟨#[]⟩) 16 Tryz.underlying36 Zid rfl .i64 .i64 n (by omega) (by omega);rw[Zgx] at hmk;have hmf:=Zgz n (by omega);have H:=jq (Kp.start hp);rw[hlen] at HC2 HBL hM;have HPL2:=jq (fun j=>(HPL.out j).trans hlen);have HRL2:=jq (fun j=>(HRL.out j).trans hlen);rw[<-htc] at HC2;clear hp hs ht hl htc h0 hw0 hS hc hsn hn0s htv hsv hK hL HPL HRL hlen;generalize ws.map val=ns at*;generalize hmm:Xk (val t) ns=mm at*;obtain⟨M,rfl⟩:∃M:Nat,mm=(M:Int):=⟨mm.toNat,by omega⟩
 simp only[Int.toNat_natCast] at hM HPM;generalize val t=T at*;unfold Zfb at HID;unfold S at*
 go_enter Tryz.func75,Tryz.ntmps75
 go_wp2_with fail
 refine(HID.out _ H.out.bl).mono ?_;rintro e w1 ⟨A1,c1,rfl,hO,hb⟩;have HIL:=jq (hO.sl Zby);have hil:(idl t ws).length=n:=hO.facts.1.symm;replace H:=jq (H.out.here hb);clear hb hO HID;generalize idl t ws=il at*;go_upto_region 5 with (fail)
 go_cut [9,10] (fun s u wc=>∃P R:Nat,s=.slice (some ⟨P,0,none⟩) n n/\u=.slice (some ⟨R,0,none⟩) n n/\Hid (Kp w [(P,txA (List.replicate n 0),24),(R,Yn (List.replicate n 0),26)] wc)/\Hid (Bz w1 wc)/\Hid (w1.1.size<=P/\w1.1.size<=R))
 case first=>
  have HB:=jq (fun(c1 c2:Obj)=>(((Bz.refl w1).alloc c1).alloc c2).drew);clear HC1 HC2 HC3 HBL HNX HPL2 HRL2 HP0 HPM HIA HTC HNG HIL hbl hil hmm
  go_region
  all_goals
   go_wp2_with fail
   go_meet
   have H3:=H.out.two
   first
    |exact⟨_,_,rfl,rfl,H3 _ _ _ _,HB.out _ _,Nat.le_succ _,Nat.le_refl _⟩
    |exact⟨_,_,rfl,rfl,(H3 _ _ _ _).perm (.swap _ _ _),HB.out _ _,Nat.le_refl _,Nat.le_succ _⟩
 case rest=>
 clear hmk hmf H;obtain⟨P,R,rfl,rfl,HK,HBW,HPR⟩:=hcut
 obtain⟨w0,rfl⟩:∃W,W=wc:=⟨_,rfl⟩
 have H1:=jq (show Kp w [(P,txA ((Qw T ns).take 0++List.replicate (n-0) 0),24),(R,Yn ((RSt T ns 0).take 0++List.replicate (n-0) 0),26)] w0 from HK.out);clear HK;generalize Qw T ns=bs at*;have hrl:=HRL2.out 0;generalize RSt T ns=RS at*;generalize PSt T ns=PS at*;have HBL0:=jq hbl;have HRL0:=jq hrl;clear hbl hrl hil;go_wp2_with fail
 go_loopw [11] (fun i wr=>∃k:Nat,k<=n/\i=.int .i64 k/\Hid (Kp w [(P,txA (bs.take k++List.replicate (n-k) 0),24),(R,Yn ((RS 0).take k++List.replicate (n-k) 0),26)] wr)/\Hid (Bz w1 wr)) (fun i _=>n-(intOf i).toNat)
 case atStart=>exact⟨0,Nat.zero_le _,rfl,H1,HBW⟩
 case round=>
  clear H1 HBW;obtain⟨k,hk,rfl,H,HBW⟩:=hrel
  by_cases hlt:k<n
  ·obtain⟨b,off,x,rfl,hb,hx,d0,d1⟩:=(HIL.out.below HBW.out).fr hlt
   obtain⟨v,hv,rfl⟩:=HIA.out k x hx
   obtain⟨hAB,hFL,hOF,hSB⟩:=HC1.out k v hv
   have hbg:bs[k]?=some (bs.getD k 0):=by rw[List.getD_eq_getElem?_getD,List.getElem?_eq_getElem (by have:=HBL0.out;omega)];rfl
   have hrg:(RS 0)[k]?=some ((RS 0).getD k 0):=by rw[List.getD_eq_getElem?_getD,List.getElem?_eq_getElem (by have:=HRL0.out;omega)];rfl
   have HSP:=jq (show(txA (bs.take k++List.replicate (n-k) 0)).setIfInBounds k (.string ⟨(Qa (bs.getD k 0)).toArray⟩)=txA (bs.take (k+1)++List.replicate (n-(k+1)) 0) by
    rw[Ziv,<-HBL0.out,Zgv bs 0 k hbg])
   have HSR:=jq (show((Yn ((RS 0).take k++List.replicate (n-k) 0)).setIfInBounds (k*2) (.string ⟨(Qd ((RS 0).getD k 0)).n.toArray⟩)).setIfInBounds (k*2+1) (.string ⟨(Qd ((RS 0).getD k 0)).d.toArray⟩)=Yn ((RS 0).take (k+1)++List.replicate (n-(k+1)) 0) by
    rw[Ziw,<-HRL0.out,Zgv (RS 0) 0 k hrg])
   have HGP:=jq (show(txA (bs.take k++List.replicate (n-k) 0))[k]?=some (.string ⟨(Qa 0).toArray⟩) from Zbo (by rw[<-HBL0.out];exact Zgw bs 0 k (by have:=HBL0.out;omega)))
   have HGQ:=jq (show(txA (bs.take (k+1)++List.replicate (n-(k+1)) 0))[k]?=some (.string ⟨(Qa (bs.getD k 0)).toArray⟩) from Zbo (by
    rw[List.getElem?_append_left (by rw[List.length_take];have:=HBL0.out;omega),List.getElem?_take_of_lt (by omega),hbg]))
   have hfg:=Zgw (RS 0) 0 k (by have:=HRL0.out;omega);rw[HRL0.out] at hfg;have HG0:=jq (Zae hfg);have HG1:=jq (Zaf hfg);have HAB:=jq hAB;have HFL:=jq hFL;have HOF:=jq hOF;have HSB:=jq hSB;clear hx hv hAB hFL hOF hSB hbg hrg hfg HC1 HC2 HC3 HNX HPM HPO HNG HIA HBL HPL2 HRL2 HP0 HTC;generalize Qd (Rat.divInt (T*v) ns.sum)=fq at*;generalize Qa (bs.getD k 0)=tb at*;generalize Qd ((bs.getD k 0:Int):Rat)=fb at*;generalize Qd ((RS 0).getD k 0)=fr at*;unfold Qh Qq at HAB HOF HSB;unfold Qq Qo at HFL;unfold S at HAB HFL HOF HSB;go_wp2_with fail
   refine(HAB.out _).mono ?_;rintro e w2 ⟨rfl,hb2⟩;have H2:=jq ((H.out.here hb2).new w2.1.size rfl #[.string ⟨fq.n.toArray⟩,.string ⟨fq.d.toArray⟩] 26);have HB2:=jq ((HBW.out.call hb2).alloc (.cells #[.string ⟨fq.n.toArray⟩,.string ⟨fq.d.toArray⟩] 26));clear hb2 d0 d1 H HBW HAB;go_upto_region 10 with (fail)
   generalize w2.alloc _=W2 at*;generalize w2.1.size=X at*;have c0:=H2.out.c 0 0 rfl rfl;have c1:=H2.out.c 0 1 rfl rfl;go_wp2_with fail
   refine(HFL.out _).mono ?_;rintro e w3 ⟨rfl,hb3⟩;have H3:=jq (H2.out.here hb3);have HB3:=jq (HB2.out.call hb3);clear hb3 c0 c1 H2 HB2 HFL;have p1:=H3.out.c 1 k rfl HGP.out;have g1:=H3.out.f 1 k rfl
   have H4:=jq (show Kp w [(X,#[.string ⟨fq.n.toArray⟩,.string ⟨fq.d.toArray⟩],26),(P,txA (bs.take (k+1)++List.replicate (n-(k+1)) 0),24),(R,Yn ((RS 0).take k++List.replicate (n-k) 0),26)] (w3.setCell ⟨P,k,none⟩ (.string ⟨tb.toArray⟩)) by
    have h:=H3.out.set 1 k rfl (.string ⟨tb.toArray⟩);rw[HSP.out] at h;exact h)
   have HB4:=jq (HB3.out.set HPR.out.1 k (.string ⟨tb.toArray⟩));go_upto_region 11 with (fail)
   clear p1 g1 H3 HB3;generalize w3.setCell ⟨P,k,none⟩ (.string ⟨tb.toArray⟩)=W4 at*;have i1:(0:Int)<=(k:Int):=by omega
   have i2:(k:Int)<(n:Int):=by omega
   have hS:=jq (fun V (h:Bz W4 V)=>(show V.cell? ⟨X,0,none⟩=some (.string ⟨fq.n.toArray⟩)/\V.cell? ⟨X,1,none⟩=some (.string ⟨fq.d.toArray⟩)/\V.cell? ⟨P,k,none⟩=some (.string ⟨tb.toArray⟩) from⟨(H4.out.here h).c 0 0 rfl rfl,(H4.out.here h).c 0 1 rfl rfl,(H4.out.here h).c 1 k rfl HGQ.out⟩));have hSS:=jq (fun V (h:Bz W4 V) u=>(show(V.setCell ⟨R,k*2,none⟩ u).cell? ⟨X,0,none⟩=some (.string ⟨fq.n.toArray⟩)/\(V.setCell ⟨R,k*2,none⟩ u).cell? ⟨X,1,none⟩=some (.string ⟨fq.d.toArray⟩)/\(V.setCell ⟨R,k*2,none⟩ u).cell? ⟨P,k,none⟩=some (.string ⟨tb.toArray⟩) from⟨((H4.out.here h).set 2 (k*2) rfl u).c 0 0 rfl rfl,((H4.out.here h).set 2 (k*2) rfl u).c 0 1 rfl rfl,((H4.out.here h).set 2 (k*2) rfl u).c 1 k rfl HGQ.out⟩));have hS2:=jq (fun V (h:Bz W4 V) u v=>(show((V.setCell ⟨R,k*2,none⟩ u).setCell ⟨R,k*2+1,none⟩ v).cell? ⟨X,0,none⟩=some (.string ⟨fq.n.toArray⟩)/\((V.setCell ⟨R,k*2,none⟩ u).setCell ⟨R,k*2+1,none⟩ v).cell? ⟨X,1,none⟩=some (.string ⟨fq.d.toArray⟩)/\((V.setCell ⟨R,k*2,none⟩ u).setCell ⟨R,k*2+1,none⟩ v).cell? ⟨P,k,none⟩=some (.string ⟨tb.toArray⟩) from⟨(((H4.out.here h).set 2 (k*2) rfl u).set 2 (k*2+1) rfl v).c 0 0 rfl rfl,(((H4.out.here h).set 2 (k*2) rfl u).set 2 (k*2+1) rfl v).c 0 1 rfl rfl,(((H4.out.here h).set 2 (k*2) rfl u).set 2 (k*2+1) rfl v).c 1 k rfl HGQ.out⟩))
   go_region_held3 (fun w'=>w'.cell? ⟨X,0,none⟩=some (.string ⟨fq.n.toArray⟩)/\w'.cell? ⟨X,1,none⟩=some (.string ⟨fq.d.toArray⟩)/\w'.cell? ⟨P,k,none⟩=some (.string ⟨tb.toArray⟩))
    (first|(exact hS2.out _ (by assumption) _ _)|(exact hSS.out _ (by assumption) _)|(exact hS.out _ (by repeat' (first|assumption|exact Bz.refl _|refine Bz.drew ?_|refine Bz.alloc ?_ _|refine Bz.set ?_ (by first|assumption|exact Nat.le_refl _|exact Bz.size (by assumption)) _ _)))|go_keep)
    (first
      |(go_at_call 33;refine(HOF.out _).mono ?_;rintro e v1 ⟨rfl,hb1⟩;have hz1:Bz W4 v1:=Bz.call (by repeat' (first|assumption|exact Bz.refl _|refine Bz.drew ?_|refine Bz.alloc ?_ _|refine Bz.set ?_ (by first|assumption|exact Nat.le_refl _|exact Bz.size (by assumption)) _ _)) hb1)
      |(go_at_call 60;refine(HSB.out _).mono ?_;rintro e v2 ⟨rfl,hb2⟩;have hz2:Bz W4 v2:=Bz.call (by repeat' (first|assumption|exact Bz.refl _|refine Bz.drew ?_|refine Bz.alloc ?_ _|refine Bz.set ?_ (by first|assumption|exact Nat.le_refl _|exact Bz.size (by assumption)) _ _)) hb2;have r0:=(H4.out.here hz2).c 2 (k*2) rfl HG0.out;have r1:=(H4.out.here hz2).c 2 (k*2+1) rfl HG1.out;have g0:=(H4.out.here hz2).f 2 (k*2) rfl;have g1:=(H4.out.here hz2).f 2 (k*2+1) rfl))
   all_goals
    have H9:=jq (show Kp w [(P,txA (bs.take (k+1)++List.replicate (n-(k+1)) 0),24),(R,Yn ((RS 0).take (k+1)++List.replicate (n-(k+1)) 0),26)] ((v2.setCell ⟨R,k*2,none⟩ (.string ⟨fr.n.toArray⟩)).setCell ⟨R,k*2+1,none⟩ (.string ⟨fr.d.toArray⟩)) by
     have h:=(((H4.out.here hz2).set 2 (k*2) rfl (.string ⟨fr.n.toArray⟩)).set 2 (k*2+1) rfl (.string ⟨fr.d.toArray⟩));simp only[List.set_cons_succ,List.set_cons_zero] at h;rw[HSR.out] at h;exact h.tail)
    have HB9:=jq (((HB4.out.call hz2).set HPR.out.2 (k*2) (.string ⟨fr.n.toArray⟩)).set HPR.out.2 (k*2+1) (.string ⟨fr.d.toArray⟩));go_wp2_with fail
    go_roundw
    case rel=>exact⟨k+1,by omega,by go_num,H9,HB9⟩
    case measure=>simp[intOf];omega
  ·obtain rfl:k=n:=by omega
   have H0:=jq (show Kp w [(P,txA (PS 0),24),(R,Yn (RS 0),26)] wr by
    have h:=H.out;simp only[Nat.sub_self,List.replicate_zero,List.append_nil] at h;rw[List.take_of_length_le (by have:=HBL0.out;omega),List.take_of_length_le (by have:=HRL0.out;omega),<-HP0.out] at h;exact h)
   obtain⟨hZO,hAB,hFL,hSU,hSB,hSM⟩:=HC2.out
   rw[<-HP0.out] at hSU hSB;have HSU:=jq (fun W (h:Kp w [(P,txA (PS 0),24),(R,Yn (RS 0),26)] W)=>hSU W P (h.at_ 0 rfl));have HZO:=jq hZO;have HAB:=jq hAB;have HFL:=jq hFL;have HSB:=jq hSB;have HSM:=jq hSM;obtain⟨h3C,h3A,h3O,h3S⟩:=HC3.out
   have H3C:=jq h3C;have H3A:=jq h3A;have H3O:=jq h3O;have H3S:=jq h3S;clear hZO hAB hFL hSU hSB hSM h3C h3A h3O h3S HC1 HC2 HC3 HIL HIA H HBW HP0 HBL0 HRL0 HPR;generalize Qd (T:Rat)=fT at*;generalize Qd 1=f1 at*;generalize Qa (PS 0).sum=ts at*;generalize Qa (M:Int)=tm at*;unfold Qh Qq at HZO HAB H3O H3S;unfold Qq Qo at HFL;unfold Qo at HSU HSB H3A;unfold Qn Qq at H3C
   try unfold S at HZO
   try unfold S at HAB
   try unfold S at HFL
   try unfold S at HSU
   try unfold S at HSB
   try unfold S at HSM
   try unfold S at H3C
   try unfold S at H3A
   try unfold S at H3O
   try unfold S at H3S
   go_wp2_with fail
   refine(HZO.out _).mono ?_;rintro e v1 ⟨rfl,hb1⟩;go_wp2_with fail
   refine(HAB.out _).mono ?_;rintro e v2 ⟨rfl,hb2⟩;go_wp2_with fail
   refine(HFL.out _).mono ?_;rintro e v3 ⟨rfl,hb3⟩;replace H0:=jq (((H0.out.here hb1).here hb2).here hb3);clear hb1 hb2 hb3 HZO HAB HFL;go_wp2_with fail
   refine(HSU.out _ H0.out).mono ?_;rintro e v4 ⟨rfl,hb4⟩;replace H0:=jq (H0.out.here hb4);clear hb4 HSU;go_wp2_with fail
   refine(HSB.out _).mono ?_;rintro e v5 ⟨rfl,hb5⟩;replace H0:=jq (H0.out.here hb5);clear hb5 HSB;go_wp2_with fail
   refine(HSM.out _).mono ?_;rintro e v6 ⟨rfl,rfl⟩;clear HSM;have hMn:(M:Int)<=1000:=by omega
   go_wp2_with fail
   go_loopw [13] (fun m wy=>∃j d:Nat,m=.int .i64 d/\j+d=M/\Hid (Kp w [(P,txA (PS j),24),(R,Yn (RS j),26)] wy)) (fun m _=>(intOf m).toNat)
   case atStart=>exact⟨0,M,rfl,by omega,H0⟩
   case round=>
    clear H0;obtain⟨j,d,rfl,hjd,H⟩:=hrel
    by_cases hd:0<d
    ·have hjn:j<k:=by omega
     have hr:=HRL2.out j;have hpl:=HPL2.out j;have HRJ:=jq (fun i (hi:i<k)=>show(RS j)[i]?=some ((RS j).getD i 0) by rw[List.getD_eq_getElem?_getD,List.getElem?_eq_getElem (by omega)];rfl);have HPJ:=jq (fun i (hi:i<k)=>show(PS j)[i]?=some ((PS j).getD i 0) by rw[List.getD_eq_getElem?_getD,List.getElem?_eq_getElem (by omega)];rfl);have HBJ:=jq (HBL.out j hjn);have HNJ:=jq (HNX.out j hjn);have HBE:=jq (show Zbn (RS j)=Xo (RS j) k by unfold Zbn;rw[hr]);rw[HBE.out] at HBJ HNJ;have HC:=jq (fun i k=>H3C.out j i k);have HA:=jq (H3A.out j);have HS3:=jq (H3S.out j);clear hr hpl HBE;obtain⟨wo,rfl⟩:∃W,W=wr:=⟨_,rfl⟩
     go_wp2_with fail
     go_loopw [15,16] (fun b i wx=>∃q:Nat,1<=q/\q<=k/\i=.int .i64 q/\b=.int .i64 (Xo (RS j) q:Nat)/\Hid (Kp w [(P,txA (PS j),24),(R,Yn (RS j),26)] wx)) (fun _ i _=>k-(intOf i).toNat)
     case atStart=>exact⟨1,Nat.le_refl _,hn0,rfl,by rw[Zdj];rfl,H⟩
     case round=>
      clear H;obtain⟨q,hq1,hq,rfl,rfl,H⟩:=hrel
      by_cases hlt2:q<k
      ·have hbq:=ZbR (RS j) q hq1;have HST:=jq (show Xo (RS j) (q+1)=if decide ((RS j).getD (Xo (RS j) q) 0<(RS j).getD q 0)=true then q else Xo (RS j) q by simp only[decide_eq_true_eq];rfl);generalize Xo (RS j) q=bq at*;have HCC:=jq (HC.out q bq);have HE:=jq (Zny ((RS j).getD q 0) ((RS j).getD bq 0));have HR0:=jq (Zae (HRJ.out q hlt2));have HR1:=jq (Zaf (HRJ.out q hlt2));have HQ0:=jq (Zae (HRJ.out bq (by omega)));have HQ1:=jq (Zaf (HRJ.out bq (by omega)));clear HC HA HS3 HRJ HPJ HBJ HNJ H3C H3A H3O H3S HBL HNX HPL2 HRL2 HPM HPO HTC HNG;generalize QK ((RS j).getD q 0) ((RS j).getD bq 0)=z at*;generalize decide ((RS j).getD bq 0<(RS j).getD q 0)=dz at*;generalize Qd ((RS j).getD q 0)=fk at*;generalize Qd ((RS j).getD bq 0)=fq at*;have i1:(0:Int)<=(q:Int):=by omega
       have i2:(q:Int)<(k:Int):=by omega
       have i3:(0:Int)<=(bq:Int):=by omega
       have i4:(bq:Int)<(k:Int):=by omega
       have hS:=jq (fun V (h:Bz wr V)=>(show V.cell? ⟨R,q*2,none⟩=some (.string ⟨fk.n.toArray⟩)/\V.cell? ⟨R,q*2+1,none⟩=some (.string ⟨fk.d.toArray⟩)/\V.cell? ⟨R,bq*2,none⟩=some (.string ⟨fq.n.toArray⟩)/\V.cell? ⟨R,bq*2+1,none⟩=some (.string ⟨fq.d.toArray⟩) from⟨(H.out.here h).c 1 (q*2) rfl HR0.out,(H.out.here h).c 1 (q*2+1) rfl HR1.out,(H.out.here h).c 1 (bq*2) rfl HQ0.out,(H.out.here h).c 1 (bq*2+1) rfl HQ1.out⟩));go_upto_region 19 with (fail)
       by_cases hz:0<z
       ·rw[decide_eq_true hz] at HE;rw[<-HE.out,if_pos rfl] at HST
        go_region_held3 (fun w'=>w'.cell? ⟨R,q*2,none⟩=some (.string ⟨fk.n.toArray⟩)/\w'.cell? ⟨R,q*2+1,none⟩=some (.string ⟨fk.d.toArray⟩)/\w'.cell? ⟨R,bq*2,none⟩=some (.string ⟨fq.n.toArray⟩)/\w'.cell? ⟨R,bq*2+1,none⟩=some (.string ⟨fq.d.toArray⟩))
         (first|(exact hS.out _ (by repeat' (first|assumption|exact Bz.refl _|refine Bz.drew ?_|refine Bz.alloc ?_ _|refine Bz.set ?_ (by first|assumption|exact Nat.le_refl _|exact Bz.size (by assumption)) _ _)))|go_keep)
         ((go_at_call 58;refine(HCC.out _).mono ?_;rintro e v1 ⟨rfl,hb1⟩;have hz1:Bz wr v1:=Bz.call (by repeat' (first|assumption|exact Bz.refl _|refine Bz.drew ?_|refine Bz.alloc ?_ _|refine Bz.set ?_ (by first|assumption|exact Nat.le_refl _|exact Bz.size (by assumption)) _ _)) hb1;have H9:=jq (H.out.here hz1)))
        all_goals
         go_wp2_with fail
         go_roundw
         case rel=>exact⟨q+1,by omega,by omega,by go_num,by rw[HST.out],H9⟩
         case measure=>simp[intOf];omega
       ·rw[decide_eq_false hz] at HE;rw[<-HE.out,if_neg (by decide)] at HST
        go_region_held3 (fun w'=>w'.cell? ⟨R,q*2,none⟩=some (.string ⟨fk.n.toArray⟩)/\w'.cell? ⟨R,q*2+1,none⟩=some (.string ⟨fk.d.toArray⟩)/\w'.cell? ⟨R,bq*2,none⟩=some (.string ⟨fq.n.toArray⟩)/\w'.cell? ⟨R,bq*2+1,none⟩=some (.string ⟨fq.d.toArray⟩))
         (first|(exact hS.out _ (by repeat' (first|assumption|exact Bz.refl _|refine Bz.drew ?_|refine Bz.alloc ?_ _|refine Bz.set ?_ (by first|assumption|exact Nat.le_refl _|exact Bz.size (by assumption)) _ _)))|go_keep)
         ((go_at_call 58;refine(HCC.out _).mono ?_;rintro e v1 ⟨rfl,hb1⟩;have hz1:Bz wr v1:=Bz.call (by repeat' (first|assumption|exact Bz.refl _|refine Bz.drew ?_|refine Bz.alloc ?_ _|refine Bz.set ?_ (by first|assumption|exact Nat.le_refl _|exact Bz.size (by assumption)) _ _)) hb1;have H9:=jq (H.out.here hz1)))
        all_goals
         go_wp2_with fail
         go_roundw
         case rel=>exact⟨q+1,by omega,by omega,by go_num,by rw[HST.out],H9⟩
         case measure=>simp[intOf];omega
      ·obtain rfl:q=k:=by omega
       have hbq:=ZbR (RS j) q hq1;generalize Xo (RS j) q=bq at*;obtain⟨hn1,hn2⟩:=HNJ.out
       have HNP:=jq (show(txA (PS j)).setIfInBounds bq (.string ⟨(Qa ((PS j).getD bq 0+1)).toArray⟩)=txA (PS (j+1)) by rw[Ziv,hn1]);have HNR:=jq (show((Yn (RS j)).setIfInBounds (bq*2) (.string ⟨(Qd ((RS j).getD bq 0-1)).n.toArray⟩)).setIfInBounds (bq*2+1) (.string ⟨(Qd ((RS j).getD bq 0-1)).d.toArray⟩)=Yn (RS (j+1)) by rw[Ziw,hn2]);have HGP:=jq (Zbo (HPJ.out bq hbq));have HQ0:=jq (Zae (HRJ.out bq hbq));have HQ1:=jq (Zaf (HRJ.out bq hbq));have HAD:=jq (HA.out bq);have HSB:=jq (HS3.out bq);clear hn1 hn2 HNJ HC HA HS3 HRJ HPJ HBJ H3C H3A H3S HBL HNX HPL2 HRL2 HPM HPO HTC HNG;generalize Qa ((PS j).getD bq 0+1)=tn at*;generalize Qa ((PS j).getD bq 0)=tp at*;generalize Qd ((RS j).getD bq 0-1)=fn at*;generalize Qd ((RS j).getD bq 0)=fq at*;have i3:(0:Int)<=(bq:Int):=by omega
       have i4:(bq:Int)<(q:Int):=by omega
       have p0:=H.out.c 0 bq rfl HGP.out;go_wp2_with fail
       refine(HAD.out _).mono ?_;rintro e v1 ⟨rfl,hb1⟩;have H1:=jq (H.out.here hb1);clear hb1 H p0;have p0:=H1.out.c 0 bq rfl HGP.out;have g0:=H1.out.f 0 bq rfl
       have H2:=jq (show Kp w [(P,txA (PS (j+1)),24),(R,Yn (RS j),26)] (v1.setCell ⟨P,bq,none⟩ (.string ⟨tn.toArray⟩)) by
        have h:=H1.out.set 0 bq rfl (.string ⟨tn.toArray⟩);rw[HNP.out] at h;exact h)
       go_upto_region 22 with (fail)
       clear p0 g0 H1;generalize v1.setCell ⟨P,bq,none⟩ (.string ⟨tn.toArray⟩)=W2 at*;have r0:=H2.out.c 1 (bq*2) rfl HQ0.out;have r1:=H2.out.c 1 (bq*2+1) rfl HQ1.out
       go_region_with (first
        |(go_at_call 33;refine(H3O.out _).mono ?_;rintro e v3 ⟨rfl,hb3⟩;have hz3:Bz W2 v3:=Bz.call (by repeat' (first|assumption|exact Bz.refl _|refine Bz.drew ?_|refine Bz.alloc ?_ _|refine Bz.set ?_ (by first|assumption|exact Nat.le_refl _|exact Bz.size (by assumption)) _ _)) hb3;have s0:=(H2.out.here hz3).c 1 (bq*2) rfl HQ0.out;have s1:=(H2.out.here hz3).c 1 (bq*2+1) rfl HQ1.out)
        |(go_at_call 60;refine(HSB.out _).mono ?_;rintro e v4 ⟨rfl,hb4⟩;have hz4:Bz W2 v4:=Bz.call (by repeat' (first|assumption|exact Bz.refl _|refine Bz.drew ?_|refine Bz.alloc ?_ _|refine Bz.set ?_ (by first|assumption|exact Nat.le_refl _|exact Bz.size (by assumption)) _ _)) hb4;have t0:=(H2.out.here hz4).c 1 (bq*2) rfl HQ0.out;have t1:=(H2.out.here hz4).c 1 (bq*2+1) rfl HQ1.out;have g0:=(H2.out.here hz4).f 1 (bq*2) rfl;have g1:=(H2.out.here hz4).f 1 (bq*2+1) rfl))
       all_goals
        have H9:=jq (show Kp w [(P,txA (PS (j+1)),24),(R,Yn (RS (j+1)),26)] ((v4.setCell ⟨R,bq*2,none⟩ (.string ⟨fn.n.toArray⟩)).setCell ⟨R,bq*2+1,none⟩ (.string ⟨fn.d.toArray⟩)) by
         have h:=((H2.out.here hz4).set 1 (bq*2) rfl (.string ⟨fn.n.toArray⟩)).set 1 (bq*2+1) rfl (.string ⟨fn.d.toArray⟩);simp only[List.set_cons_succ,List.set_cons_zero] at h;rw[HNR.out] at h;exact h)
        go_wp2_with fail
        go_roundw
        case rel=>exact⟨j+1,d-1,by rw[show((d-1:Nat):Int)=(d:Int)-1 by omega],by omega,H9⟩
        case measure=>simp[intOf];omega
    ·obtain rfl:d=0:=by omega
     obtain rfl:j=M:=by omega
     have hb:=H.out.at_ 0 rfl;have hge:=H.out.old 0 rfl;have HB:=jq (show BlkB wr P (QA (Xs T ns) k k) 24 by rw[<-HPM.out,<-Zdi _ _ (HPL2.out j)];exact hb);have HGE:=jq hge;clear hb hge H3C H3A H3O H3S HBL HNX HPL2 HRL2 HPM;go_wp2_with fail
     refine(HNG.out _).mono ?_;rintro e v8 ⟨rfl,rfl⟩;go_wp2_with fail
     first|go_ret2|skip
     rw[HPO.out];exact⟨P,rfl,HB.out,HGE.out,H.out.bl⟩
end
section
theorem ZjR{t:Int}{ws:List (List UInt8)}(h0:ws≠[])(hn:ws.length<=1000)(hc:∀x∈ws,QH x=true)(hw:∀x∈ws,0<=val x)(hS:0<Qz ws):QN (Qa t) ws=0:=by
 unfold QN;rw[if_neg h0,if_neg (by omega),if_neg,if_neg (by omega)];rw[Zbs];intro h
 rcases h with h|h
 ·cases h
 ·obtain⟨x,hx,hb⟩:=List.any_eq_true.1 h
  rw[hc x hx,decide_eq_false (by have:=hw x hx;omega)] at hb
  cases hb
theorem ZgA(t:Int)(A:Option Addr)(n c:Nat)(ws:List (List UInt8))(w:World)(hp:Env w)(hs:Yu w w.1.size A n ws)(ht:(Qa t).length<=1000)(hl:∀x∈ws,x.length<=1000)(hn:n<=1000)(h0:0<=t)(hc:∀x∈ws,QH x=true)(hw0:∀x∈ws,0<=val x)(hS:t≠0->0<Qz ws):
 Calls Tryz.prog 30 #[S (Qa t),.slice A n c] w (Jr (YK t (ws.map val)) n w):=by
 have HPO:=jq (show ∀e w',Jr (YK t (ws.map val)) n w e w'=∃P,e=.returned (.slice (some ⟨P,0,none⟩) n n)/\BlkB w' P (QA (YK t (ws.map val)) n n) 24/\w.1.size<=P/\Below w.1.size w w' from fun _ _=>rfl);generalize Jr (YK t (ws.map val)) n w=post at*;have hlen:ws.length=n:=hs.1.symm;have H:=jq (Below.refl w.1.size w)
 by_cases h:t=0
 ·subst h
  have hz:YK 0 (ws.map val)=List.replicate n 0:=by
   have e:(ws.map val).map (fun _=>(0:Int))=List.replicate n 0:=by
    rw[List.map_map,<-hlen];exact List.map_const' ..
   unfold YK
   split
   ·exact e
   ·rename_i hne
    rw[ZjQ (by intro x hx;obtain⟨y,hy,rfl⟩:=List.mem_map.1 hx;exact hw0 y hy) (by
     have:=QI (l:=ws.map val) (by intro x hx;obtain⟨y,hy,rfl⟩:=List.mem_map.1 hx;exact hw0 y hy)
     omega)]
    exact e
  have HZ:=jq (show txA (List.replicate n 0)=QA (YK 0 (ws.map val)) n n by rw[hz];exact Zdi _ _ (by simp));have hmk:=run_make_row' (P:=Tryz.prog) 36 24 (.string ⟨#[]⟩) 16 Tryz.underlying36 Zid rfl .i64 .i64 n (by omega) (by omega);rw[Zgx,HZ.out] at hmk;rw[show Qa 0=[] from rfl];clear hz HZ hs hl hw0 hc hS ht h0;generalize QA (YK 0 (ws.map val)) n n=pa at*;unfold S;go_enter Tryz.func30,Tryz.ntmps30
  go_wp2_with fail
  first|go_ret|skip
  rw[HPO.out];exact⟨_,rfl,heap_alloc_new w _,Nat.le_refl _,(Below.refl _ _).alloc (Nat.le_refl _) _⟩
 ·have hsp:=hS h
  have hn0:0<n:=by
   rcases Nat.eq_zero_or_pos n with e|e
   ·rw[e] at hlen;rw[List.eq_nil_of_length_eq_zero hlen] at hsp;exact absurd hsp (by decide)
   ·exact e
  have HSP:=jq (fun W (hb:Below w.1.size w W)=>ZhJ (Qa t) A n c ws W (hp.here hb) (hs.here hb) ht hl hn0 hn (by rw[Qc]) (by rw[Qc];exact h0) hw0 hsp (ZjR (by intro e;rw[e] at hlen;simp at hlen;omega) (by omega) hc hw0 hsp));rw[Qc] at HSP;have HDV:=jq (show YK t (ws.map val)=Xs t (ws.map val) by unfold YK;rw[if_neg];have:(ws.map val).sum=Qz ws:=rfl;omega);rw[HDV.out] at HPO
  have hne:(Qa t==[])=false:=by
   rw[Bool.eq_false_iff];intro e;exact h (VW.1 (eq_of_beq e))
  have hem:(Qa t).isEmpty=false:=by
   cases h:Qa t with
   |nil=>rw[h] at hne;cases hne
   |cons _ _=>rfl
  clear hs hl hw0 hc hS ht h0 h hsp HDV;unfold YS at HSP;generalize QA (Xs t (ws.map val)) n n=pa at*;generalize Qa t=tt at*;unfold S at*
  go_enter Tryz.func30,Tryz.ntmps30
  go_wp2_with fail
  refine(HSP.out _ H.out).mono ?_;rintro e w1 ⟨P,rfl,hB,hP,hb⟩;have HB:=jq (And.intro hB (And.intro hP hb));clear hB hP hb;go_wp2_with fail
  first|go_ret|skip
  rw[HPO.out];exact⟨P,rfl,HB.out.1,HB.out.2.1,HB.out.2.2⟩
theorem ZgB(f:Fr)(hf:f.Sz 5000):XB 31 #[Qq f] (S (Qa (rnd f.rat))):=by
 intro w hp;have H:=jq ((Kp.start hp).new w.1.size rfl #[.string ⟨f.n.toArray⟩,.string ⟨f.d.toArray⟩] 26);have HR:=jq (Zgr f hf);have x0:(w.alloc (.cells #[.string ⟨f.n.toArray⟩,.string ⟨f.d.toArray⟩] 26)).cell? ⟨w.1.size,0,none⟩=some (.string ⟨f.n.toArray⟩):=H.out.c 0 0 rfl rfl;have x1:(w.alloc (.cells #[.string ⟨f.n.toArray⟩,.string ⟨f.d.toArray⟩] 26)).cell? ⟨w.1.size,1,none⟩=some (.string ⟨f.d.toArray⟩):=H.out.c 0 1 rfl rfl;generalize Qa (rnd f.rat)=res at*;clear hf hp;unfold Qq at*
 unfold S at*
 go_enter Tryz.func31,Tryz.ntmps31
 go_wp2_with fail
 generalize w.alloc _=W at*;refine(HR.out _ H.out.pw).mono ?_;rintro e w2 ⟨rfl,hb⟩;go_wp2_with fail
 first|go_ret|skip
 exact⟨rfl,(H.out.here hb).bl⟩
end
end Go.Proofs.YtkddgeclncafoaaGreatDoor
