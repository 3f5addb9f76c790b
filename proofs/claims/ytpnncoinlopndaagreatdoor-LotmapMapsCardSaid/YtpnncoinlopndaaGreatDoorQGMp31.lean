/- . -/
import Derived.Test.YtpnncoinlopndaaGreatDoorQGMp27
import Derived.Test.YtpnncoinlopndaaGreatDoorQGMp30
import Derived.Test.YtpnncoinlopndaaGreatDoorQGMp21
set_option maxRecDepth 100000
set_option maxHeartbeats 10000000
namespace Go.Proofs.YtpnncoinlopndaaGreatDoor
open Go.Lib renaming hid→jq
open Go.RowKit Go.Shelf
section
theorem ZgQ(l:List Int):Qw (l.map Qa)=l.sum:=by
 unfold Qw;rw[List.map_map,show(val ∘ Qa)=id from funext fun n=>Qc n,List.map_id]
theorem Zcm{α:Type}{l:List α}{k:Nat}{x:α}(d:α)(h:l[k]?=some x):l.getD k d=x:=by rw[List.getD_eq_getElem?_getD,h];rfl
theorem Zfp{t w:Int}{ns:List Int}{K:Nat}(hK:1<=K)(hK2:K<=2000)(h0:0<=t)(hw:∀w∈ns,0<=w)(hS:0<ns.sum)(ht:t.natAbs<10^K)(hs:ns.sum.natAbs<10^K){k:Nat}(hk:ns[k]?=some w):
 (∀W,Calls Tryz.prog 184 #[QC (Qf (Rat.divInt (t*w) ns.sum))] W (Qg (Qf (Rat.divInt (t*w) ns.sum)) W))/\
 (∀W,Calls Tryz.prog 63 #[QC (Qf (Rat.divInt (t*w) ns.sum))] W (Qh (Qa ((QA t ns).getD k 0)) W))/\
 (∀W,Calls Tryz.prog 49 #[S (Qa ((QA t ns).getD k 0))] W (Qg (Qf (((QA t ns).getD k 0:Int):Rat)) W))/\
 (∀W,Calls Tryz.prog 64 #[QC (Qf (Rat.divInt (t*w) ns.sum)),QC (Qf (((QA t ns).getD k 0:Int):Rat))] W (Qg (Qf ((RSt t ns 0).getD k 0)) W)):=by
 have hwk:=hw w (List.mem_of_getElem? hk);have hwS:=ZaF hw (List.mem_of_getElem? hk);have hq:RB (K+K) (Rat.divInt (t*w) ns.sum):=RB.divInt (QB ht (by omega)) (Nat.lt_of_lt_of_le hs (Nat.pow_le_pow_right (by omega) (by omega))) (by omega);have z1:=QF hq;have hq0:0<=Rat.divInt (t*w) ns.sum:=Rat.divInt_nonneg (Int.mul_nonneg h0 hwk) (Int.le_of_lt hS);obtain⟨i1,i2⟩:=Zln t w hS
 have hb:(QA t ns).getD k 0=(t*w).fdiv ns.sum:=by
  apply Zcm
  simp[QA,hk]
 have hr:(RSt t ns 0).getD k 0=Rat.divInt ((t*w).fmod ns.sum) ns.sum:=by
  rw[Zll]
  apply Zcm
  simp[QI,hk]
 rw[hb,hr,<-i2,i1];have hfl:=Ze5 hq (by omega);rw[i1] at hfl;have l1:=Qd hfl;have z2:(Qf (((t*w).fdiv ns.sum:Int):Rat)).Sz (K+K+1+1):=QF (JP hfl (by omega));refine⟨fun W=>ZeI _ W (z1.more (by omega)) (by rw[Qj];exact hq0),fun W=> ?_,fun W=> ?_,fun W=> ?_⟩
 ·have h:=JX (Qf (Rat.divInt (t*w) ns.sum)) W (z1.more (by omega));rw[Qj,i1] at h;exact h
 ·have h:=YT (Qa ((t*w).fdiv ns.sum)) W (by omega);rw[Qc] at h;exact h
 ·have h:=ZbT (Qf (Rat.divInt (t*w) ns.sum)) (Qf (((t*w).fdiv ns.sum:Int):Rat)) W (z1.more (by omega)) (z2.more (by omega));rw[Qj,Qj] at h;exact h
theorem Zfq{t:Int}{ns:List Int}{K:Nat}(hK:1<=K)(hK2:K<=2000)(h0:0<=t)(hw:∀w∈ns,0<=w)(hS:0<ns.sum)(ht:t.natAbs<10^K)(hl:ns.length<=1000):
 (∀W,Calls Tryz.prog 49 #[S (Qa t)] W (Qg (Qf (t:Rat)) W))/\
 (∀W,Calls Tryz.prog 184 #[QC (Qf (t:Rat))] W (Qg (Qf (t:Rat)) W))/\
 (∀W,Calls Tryz.prog 63 #[QC (Qf (t:Rat))] W (Qh (Qa t) W))/\
 (∀W P,BlkB W P (txA (QA t ns)) 24->Calls Tryz.prog 69 #[.slice (some ⟨P,0,none⟩) ns.length ns.length] W (Qh (Qa (QA t ns).sum) W))/\
 (∀W,Calls Tryz.prog 35 #[S (Qa t),S (Qa (QA t ns).sum)] W (Qh (Qa (Xs t ns)) W))/\
 (∀W,Calls Tryz.prog 185 #[S (Qa (Xs t ns))] W fun e w'=>e=.returned (.tuple #[.int .i64 (Xs t ns),.bool true])/\W=w'):=by
 have l1:=Qd ht;have z1:(Qf (t:Rat)).Sz (K+1):=QF (JP ht hK);have hm0:=YZ t hS;have hm1:=ZiG (t:=t) hS;have hbs:(QA t ns).sum=t-Xs t ns:=by unfold Xs;omega
 have hbn:0<=(QA t ns).sum:=QP (fun b hb=>(ZaA h0 hw hS b hb).1);have l2:=Qd (n:=(QA t ns).sum) (L:=K) (by omega);refine⟨fun W=> ?_,fun W=>ZeI _ W (z1.more (by omega)) (by rw[Qj];exact_mod_cast h0),fun W=> ?_,fun W P hP=> ?_,fun W=> ?_,fun W=> ?_⟩
 ·have h:=YT (Qa t) W (by omega);rw[Qc] at h;exact h
 ·have h:=JX (Qf (t:Rat)) W (z1.more (by omega));rw[Qj,show QK ((t:Int):Rat)=t by unfold QK;simp] at h;exact h
 ·have hlen:(QA t ns).length=ns.length:=by simp[QA]
  rw[ZdU _ _ hlen] at hP
  have h:=JD (some ⟨P,0,none⟩) ns.length ns.length ((QA t ns).map Qa) W (Yq hP hlen) (by
   intro x hx;obtain⟨b,hb,rfl⟩:=List.mem_map.1 hx
   have hbb:=ZaA h0 hw hS b hb;have:=Qd (n:=b) (L:=K) (by omega)
   omega) (by omega)
  rw[ZgQ] at h;exact h
 ·have h:=Zau (Qa t) (Qa (QA t ns).sum) W (by omega) (by omega);rw[Qc,Qc] at h;exact h
 ·have hml:(Qa (Xs t ns)).length<=17:=by
   have:=Qd (n:=Xs t ns) (L:=4) (by omega)
   omega
  have h:=ZhF (Qa (Xs t ns)) W hml (by rw[ZcQ,Qc];simp;omega);rw[Qc] at h;exact h
theorem Zfr{t:Int}{ns:List Int}{K:Nat}(hK:1<=K)(hK2:K<=2000)(h0:0<=t)(hw:∀w∈ns,0<=w)(hS:0<ns.sum)(ht:t.natAbs<10^K)(hs:ns.sum.natAbs<10^K):
 (∀j i k W,Calls Tryz.prog 50 #[QC (Qf ((RSt t ns j).getD i 0)),QC (Qf ((RSt t ns j).getD k 0))] W (Qq (Xe ((RSt t ns j).getD i 0) ((RSt t ns j).getD k 0)) W))/\
 (∀j i W,Calls Tryz.prog 36 #[S (Qa ((PSt t ns j).getD i 0)),.string ⟨#[49]⟩] W (Qh (Qa ((PSt t ns j).getD i 0+1)) W))/\
 (∀W,Calls Tryz.prog 49 #[.string ⟨#[49]⟩] W (Qg (Qf 1) W))/\
 (∀j i W,Calls Tryz.prog 64 #[QC (Qf ((RSt t ns j).getD i 0)),QC (Qf 1)] W (Qg (Qf ((RSt t ns j).getD i 0-1)) W)):=by
 have z:=fun j i=>QF (Zm7 (t:=t) hS hs hK j i)
 have z1:(Qf 1).Sz 20:=by rw[show(1:Rat)=((1:Int):Rat) from rfl,Jv];exact⟨by decide+kernel,by simp⟩
 refine⟨fun j i k W=> ?_,fun j i W=> ?_,fun W=> ?_,fun j i W=> ?_⟩
 ·have h:=Xd (Qf ((RSt t ns j).getD i 0)) (Qf ((RSt t ns j).getD k 0)) W ((z j i).more (by omega)) ((z j k).more (by omega));rw[Qj,Qj] at h;exact h
 ·have hp:=Zm6 h0 hw hS j i
  have hpk:((PSt t ns j).getD i 0).natAbs<10^(K+1):=by
   have:10^K*10=10^(K+1):=(Nat.pow_succ ..).symm
   have:1<=10^K:=Nat.one_le_pow _ _ (by omega)
   omega
  have l:=Qd hpk;have h:=VH (Qa ((PSt t ns j).getD i 0)) [49] W (by omega) (by simp);rw[Qc,Yn] at h;exact h
 ·have h:=YT [49] W (by simp);rw[Yn] at h;exact h
 ·have h:=ZbT (Qf ((RSt t ns j).getD i 0)) (Qf 1) W ((z j i).more (by omega)) (z1.more (by omega));rw[Qj,Qj] at h;exact h
end
section
attribute [local go_sem ↓] Go.wp_at_zero Go.wp_at_succ
theorem ZnB:(Tryz.prog.info? 26).map (fun i=>(i.zero,i.size,i.bytes))=some (some (.agg #[.string ⟨#[]⟩,.string ⟨#[]⟩]),2,32):=by kernel_rfl
theorem ZgR(n:Nat)(hn:n<=1000000)(w:World):(Instr.makeSlice 92 (.int .i64 (n:Int)) (.int .i64 (n:Int))).run Tryz.prog w=.ok (.slice (some ⟨w.1.size,0,none⟩) n n) (w.alloc (.cells (frA (List.replicate n 0)) 26)):=by
 obtain⟨i,hi,hzz⟩:=Option.map_eq_some_iff.1 ZnB
 simp only[Prod.mk.injEq] at hzz;obtain⟨hz,hs,hb⟩:=hzz
 have h:=run_make (P:=Tryz.prog) w 92 26 i _ Tryz.underlying92 hi hz .i64 .i64 n n (by omega) (by omega) (by rw[hb];omega) (by omega);rw[hs] at h;simp only[Int.toNat_natCast] at h;rw[show madeCells (Value.agg #[.string ⟨#[]⟩,.string ⟨#[]⟩]).cells (n*2)=frA (List.replicate n 0) from Zlj n] at h;exact h
theorem Kp.two{w w1:World}(h:Kp w [] w1)(c1 c2:Array Value)(T1 T2:TypeId):
 Kp w [(w1.1.size+1,c2,T2),(w1.1.size,c1,T1)] ((w1.alloc (.cells c1 T1)).alloc (.cells c2 T2)).drew:=((h.new _ rfl c1 T1).new _ (by simp) c2 T2).drew
theorem Zm8{t:List UInt8}{ws:List (List UInt8)}{k:Nat}{x:Fr}(h:(idl t ws)[k]?=some x):∃v,(ws.map val)[k]?=some v/\x=Qf (Rat.divInt (val t*v) (ws.map val).sum):=by
 unfold idl at h;rw[List.getElem?_map,Option.map_eq_some_iff] at h;obtain⟨a,ha,rfl⟩:=h
 exact⟨val a,by simp[ha],rfl⟩
theorem ZdV(rs:List Rat):XF rs 1=0:=by
 show(if rs.getD 0 0<rs.getD 0 0 then 0 else 0)=0
 split<;>rfl
theorem Zcn(rs:List Rat):∀k,1<=k->XF rs k<k
 |0,h=>absurd h (by omega)
 |1,_=>by rw[ZdV];omega
 |k+2,_=>by
  have:=Zcn rs (k+1) (by omega)
  show(if rs.getD (XF rs (k+1)) 0<rs.getD (k+1) 0 then k+1 else XF rs (k+1))<k+2
  split<;>omega
theorem ZhR(t:List UInt8)(A:Option Addr)(n c:Nat)(ws:List (List UInt8))(w:World)(hp:Env w)(hs:XA w w.1.size A n ws)(ht:t.length<=1000)(hl:∀x∈ws,x.length<=1000)(hn0:0<n)(hn:n<=1000)(htc:t=Qa (val t))(h0:0<=val t)(hw0:∀x∈ws,0<=val x)(hS:0<Qw ws)(hc:Xa t ws=0):
 Calls Tryz.prog 140 #[S t,.slice A n c] w (VD (Xz (val t) (ws.map val)) n 0 w):=by
 have HPO:=jq (show ∀e w',VD (Xz (val t) (ws.map val)) n 0 w e w'=∃P,e=.returned (.tuple #[.slice (some ⟨P,0,none⟩) n n,.int .i64 0])/\BlkB w' P (Qo (Xz (val t) (ws.map val)) n n) 24/\w.1.size<=P/\Below w.1.size w w' from fun _ _=>rfl);generalize VD (Xz (val t) (ws.map val)) n 0 w=post at*;have HID:=jq (fun W (hb:Below w.1.size w W)=>ZhQ t A n c ws W (hs.here hb) ht hl hn hc);have hlen:(ws.map val).length=n:=by rw[List.length_map];exact hs.1.symm
 have hsn:0<(ws.map val).sum:=hS;have hn0s:∀x∈ws.map val,0<=x:=by intro x hx;obtain⟨y,hy,rfl⟩:=List.mem_map.1 hx;exact hw0 y hy
 obtain⟨L,hL⟩:∃L:Nat,L=1000:=⟨_,rfl⟩
 have htv:(val t).natAbs<10^(L+4):=Qz (by omega);have hsv:(ws.map val).sum.natAbs<10^(L+4):=Za4 (L:=L) (fun a ha=>Qz (by have:=hl a ha;omega)) (by have:=hs.1;omega);obtain⟨K,hK⟩:∃K:Nat,K=L+4:=⟨_,rfl⟩
 rw[<-hK] at htv hsv;have HC1:=jq (fun k v (hk:(ws.map val)[k]?=some v)=>Zfp (by omega) (by omega) h0 hn0s hsn htv hsv hk);have HC2:=jq (Zfq (K:=K) (by omega) (by omega) h0 hn0s hsn htv (by omega));have HC3:=jq (Zfr (K:=K) (by omega) (by omega) h0 hn0s hsn htv hsv);have HBL:=jq (fun j (hj:j<n)=>Zmt (t:=val t) hsn (j:=j) (by omega));have HNX:=jq (fun j (hj:j<n)=>Zmu (t:=val t) hsn (j:=j) (by omega));have hM:=ZiG (t:=val t) hsn;have hm0:=YZ (val t) hsn;have HPL:=jq (fun j=>ZiE (val t) (ws.map val) j);have HRL:=jq (fun j=>ZiF (val t) (ws.map val) j);have HP0:=jq (Zlk (val t) (ws.map val));have HPM:=jq (Zlm (val t) (ws.map val));have HIA:=jq (fun k x (h:(idl t ws)[k]?=some x)=>Zm8 h);have HTC:=jq htc;have HNG:=jq (fun W=>YE t W (by omega));rw[show decide (val t<0)=false by simpa using h0] at HNG;have hbl:(QA (val t) (ws.map val)).length=n:=by simpa[QA] using hlen
 have hmk:=run_make_row' (P:=Tryz.prog) 58 24 (.string ⟨#[]⟩) 16 Tryz.underlying58 Zid rfl .i64 .i64 n (by omega) (by omega);rw[ZgO] at hmk;have hmf:=ZgR n (by omega);have H:=jq (Kp.start hp);rw[hlen] at HC2 HBL hM;have HPL2:=jq (fun j=>(HPL.out j).trans hlen);have HRL2:=jq (fun j=>(HRL.out j).trans hlen);rw[<-htc] at HC2;clear hp hs ht hl htc h0 hw0 hS hc hsn hn0s htv hsv hK hL HPL HRL hlen;generalize ws.map val=ns at*;generalize hmm:Xs (val t) ns=mm at*;obtain⟨M,rfl⟩:∃M:Nat,mm=(M:Int):=⟨mm.toNat,by omega⟩
 simp only[Int.toNat_natCast] at hM HPM;generalize val t=T at*;unfold Zfm at HID;unfold S at*
 go_enter Tryz.func140,Tryz.ntmps140
 go_wp2_with fail
 refine(HID.out _ H.out.bl).mono ?_;rintro e w1 ⟨A1,c1,rfl,hO,hb⟩;have HIL:=jq (hO.sl Zhr);have hil:(idl t ws).length=n:=hO.facts.1.symm;replace H:=jq (H.out.here hb);clear hb hO HID;generalize idl t ws=il at*;go_upto_region 5 with (fail)
 go_cut [9,10] (fun s u wc=>∃P R:Nat,s=.slice (some ⟨P,0,none⟩) n n/\u=.slice (some ⟨R,0,none⟩) n n/\Hid (Kp w [(P,txA (List.replicate n 0),24),(R,frA (List.replicate n 0),26)] wc)/\Hid (Bz w1 wc)/\Hid (w1.1.size<=P/\w1.1.size<=R))
 case first=>
  have HB:=jq (fun(c1 c2:Obj)=>(((Bz.refl w1).alloc c1).alloc c2).drew);clear HC1 HC2 HC3 HBL HNX HPL2 HRL2 HP0 HPM HIA HTC HNG HIL hbl hil hmm
  go_region
  all_goals
   go_wp2_with fail
   go_meet
   have H3:=H.out.two
   first
    |exact⟨_,_,rfl,rfl,H3 _ _ _ _,HB.out _ _,Nat.le_succ _,Nat.le_refl _⟩
    |exact⟨_,_,rfl,rfl,(H3 _ _ _ _).perm (.swap _ _ _),HB.out _ _,Nat.le_refl _,Nat.le_succ _⟩
 case rest=>
 clear hmk hmf H;obtain⟨P,R,rfl,rfl,HK,HBW,HPR⟩:=hcut
 obtain⟨w0,rfl⟩:∃W,W=wc:=⟨_,rfl⟩
 have H1:=jq (show Kp w [(P,txA ((QA T ns).take 0++List.replicate (n-0) 0),24),(R,frA ((RSt T ns 0).take 0++List.replicate (n-0) 0),26)] w0 from HK.out);clear HK;generalize QA T ns=bs at*;have hrl:=HRL2.out 0;generalize RSt T ns=RS at*;generalize PSt T ns=PS at*;have HBL0:=jq hbl;have HRL0:=jq hrl;clear hbl hrl hil;go_wp2_with fail
 go_loopw [11] (fun i wr=>∃k:Nat,k<=n/\i=.int .i64 k/\Hid (Kp w [(P,txA (bs.take k++List.replicate (n-k) 0),24),(R,frA ((RS 0).take k++List.replicate (n-k) 0),26)] wr)/\Hid (Bz w1 wr)) (fun i _=>n-(intOf i).toNat)
 case atStart=>exact⟨0,Nat.zero_le _,rfl,H1,HBW⟩
 case round=>
  clear H1 HBW;obtain⟨k,hk,rfl,H,HBW⟩:=hrel
  by_cases hlt:k<n
  ·obtain⟨b,off,x,rfl,hb,hx,d0,d1⟩:=(HIL.out.below HBW.out).fr hlt
   obtain⟨v,hv,rfl⟩:=HIA.out k x hx
   obtain⟨hAB,hFL,hOF,hSB⟩:=HC1.out k v hv
   have hbg:bs[k]?=some (bs.getD k 0):=by rw[List.getD_eq_getElem?_getD,List.getElem?_eq_getElem (by have:=HBL0.out;omega)];rfl
   have hrg:(RS 0)[k]?=some ((RS 0).getD k 0):=by rw[List.getD_eq_getElem?_getD,List.getElem?_eq_getElem (by have:=HRL0.out;omega)];rfl
   have HSP:=jq (show(txA (bs.take k++List.replicate (n-k) 0)).setIfInBounds k (.string ⟨(Qa (bs.getD k 0)).toArray⟩)=txA (bs.take (k+1)++List.replicate (n-(k+1)) 0) by
    rw[ZiC,<-HBL0.out,ZgM bs 0 k hbg])
   have HSR:=jq (show((frA ((RS 0).take k++List.replicate (n-k) 0)).setIfInBounds (k*2) (.string ⟨(Qf ((RS 0).getD k 0)).n.toArray⟩)).setIfInBounds (k*2+1) (.string ⟨(Qf ((RS 0).getD k 0)).d.toArray⟩)=frA ((RS 0).take (k+1)++List.replicate (n-(k+1)) 0) by
    rw[ZiD,<-HRL0.out,ZgM (RS 0) 0 k hrg])
   have HGP:=jq (show(txA (bs.take k++List.replicate (n-k) 0))[k]?=some (.string ⟨(Qa 0).toArray⟩) from ZbV (by rw[<-HBL0.out];exact ZgN bs 0 k (by have:=HBL0.out;omega)))
   have HGQ:=jq (show(txA (bs.take (k+1)++List.replicate (n-(k+1)) 0))[k]?=some (.string ⟨(Qa (bs.getD k 0)).toArray⟩) from ZbV (by
    rw[List.getElem?_append_left (by rw[List.length_take];have:=HBL0.out;omega),List.getElem?_take_of_lt (by omega),hbg]))
   have hfg:=ZgN (RS 0) 0 k (by have:=HRL0.out;omega);rw[HRL0.out] at hfg;have HG0:=jq (Zay hfg);have HG1:=jq (Zaz hfg);have HAB:=jq hAB;have HFL:=jq hFL;have HOF:=jq hOF;have HSB:=jq hSB;clear hx hv hAB hFL hOF hSB hbg hrg hfg HC1 HC2 HC3 HNX HPM HPO HNG HIA HBL HPL2 HRL2 HP0 HTC;generalize Qf (Rat.divInt (T*v) ns.sum)=fq at*;generalize Qa (bs.getD k 0)=tb at*;generalize Qf ((bs.getD k 0:Int):Rat)=fb at*;generalize Qf ((RS 0).getD k 0)=fr at*;unfold Qg QC at HAB HOF HSB;unfold QC Qh at HFL;unfold S at HAB HFL HOF HSB;go_wp2_with fail
   refine(HAB.out _).mono ?_;rintro e w2 ⟨rfl,hb2⟩;have H2:=jq ((H.out.here hb2).new w2.1.size rfl #[.string ⟨fq.n.toArray⟩,.string ⟨fq.d.toArray⟩] 26);have HB2:=jq ((HBW.out.call hb2).alloc (.cells #[.string ⟨fq.n.toArray⟩,.string ⟨fq.d.toArray⟩] 26));clear hb2 d0 d1 H HBW HAB;go_upto_region 10 with (fail)
   generalize w2.alloc _=W2 at*;generalize w2.1.size=X at*;have c0:=H2.out.c 0 0 rfl rfl;have c1:=H2.out.c 0 1 rfl rfl;go_wp2_with fail
   refine(HFL.out _).mono ?_;rintro e w3 ⟨rfl,hb3⟩;have H3:=jq (H2.out.here hb3);have HB3:=jq (HB2.out.call hb3);clear hb3 c0 c1 H2 HB2 HFL;have p1:=H3.out.c 1 k rfl HGP.out;have g1:=H3.out.f 1 k rfl
   have H4:=jq (show Kp w [(X,#[.string ⟨fq.n.toArray⟩,.string ⟨fq.d.toArray⟩],26),(P,txA (bs.take (k+1)++List.replicate (n-(k+1)) 0),24),(R,frA ((RS 0).take k++List.replicate (n-k) 0),26)] (w3.setCell ⟨P,k,none⟩ (.string ⟨tb.toArray⟩)) by
    have h:=H3.out.set 1 k rfl (.string ⟨tb.toArray⟩);rw[HSP.out] at h;exact h)
   have HB4:=jq (HB3.out.set HPR.out.1 k (.string ⟨tb.toArray⟩));go_upto_region 11 with (fail)
   clear p1 g1 H3 HB3;generalize w3.setCell ⟨P,k,none⟩ (.string ⟨tb.toArray⟩)=W4 at*;have i1:(0:Int)<=(k:Int):=by omega
   have i2:(k:Int)<(n:Int):=by omega
   have hS:=jq (fun V (h:Bz W4 V)=>(show V.cell? ⟨X,0,none⟩=some (.string ⟨fq.n.toArray⟩)/\V.cell? ⟨X,1,none⟩=some (.string ⟨fq.d.toArray⟩)/\V.cell? ⟨P,k,none⟩=some (.string ⟨tb.toArray⟩) from⟨(H4.out.here h).c 0 0 rfl rfl,(H4.out.here h).c 0 1 rfl rfl,(H4.out.here h).c 1 k rfl HGQ.out⟩));have hSS:=jq (fun V (h:Bz W4 V) u=>(show(V.setCell ⟨R,k*2,none⟩ u).cell? ⟨X,0,none⟩=some (.string ⟨fq.n.toArray⟩)/\(V.setCell ⟨R,k*2,none⟩ u).cell? ⟨X,1,none⟩=some (.string ⟨fq.d.toArray⟩)/\(V.setCell ⟨R,k*2,none⟩ u).cell? ⟨P,k,none⟩=some (.string ⟨tb.toArray⟩) from⟨((H4.out.here h).set 2 (k*2) rfl u).c 0 0 rfl rfl,((H4.out.here h).set 2 (k*2) rfl u).c 0 1 rfl rfl,((H4.out.here h).set 2 (k*2) rfl u).c 1 k rfl HGQ.out⟩));have hS2:=jq (fun V (h:Bz W4 V) u v=>(show((V.setCell ⟨R,k*2,none⟩ u).setCell ⟨R,k*2+1,none⟩ v).cell? ⟨X,0,none⟩=some (.string ⟨fq.n.toArray⟩)/\((V.setCell ⟨R,k*2,none⟩ u).setCell ⟨R,k*2+1,none⟩ v).cell? ⟨X,1,none⟩=some (.string ⟨fq.d.toArray⟩)/\((V.setCell ⟨R,k*2,none⟩ u).setCell ⟨R,k*2+1,none⟩ v).cell? ⟨P,k,none⟩=some (.string ⟨tb.toArray⟩) from⟨(((H4.out.here h).set 2 (k*2) rfl u).set 2 (k*2+1) rfl v).c 0 0 rfl rfl,(((H4.out.here h).set 2 (k*2) rfl u).set 2 (k*2+1) rfl v).c 0 1 rfl rfl,(((H4.out.here h).set 2 (k*2) rfl u).set 2 (k*2+1) rfl v).c 1 k rfl HGQ.out⟩))
   go_region_held3 (fun w'=>w'.cell? ⟨X,0,none⟩=some (.string ⟨fq.n.toArray⟩)/\w'.cell? ⟨X,1,none⟩=some (.string ⟨fq.d.toArray⟩)/\w'.cell? ⟨P,k,none⟩=some (.string ⟨tb.toArray⟩))
    (first|(exact hS2.out _ (by assumption) _ _)|(exact hSS.out _ (by assumption) _)|(exact hS.out _ (by repeat' (first|assumption|exact Bz.refl _|refine Bz.drew ?_|refine Bz.alloc ?_ _|refine Bz.set ?_ (by first|assumption|exact Nat.le_refl _|exact Bz.size (by assumption)) _ _)))|go_keep)
    (first
      |(go_at_call 49;refine(HOF.out _).mono ?_;rintro e v1 ⟨rfl,hb1⟩;have hz1:Bz W4 v1:=Bz.call (by repeat' (first|assumption|exact Bz.refl _|refine Bz.drew ?_|refine Bz.alloc ?_ _|refine Bz.set ?_ (by first|assumption|exact Nat.le_refl _|exact Bz.size (by assumption)) _ _)) hb1)
      |(go_at_call 64;refine(HSB.out _).mono ?_;rintro e v2 ⟨rfl,hb2⟩;have hz2:Bz W4 v2:=Bz.call (by repeat' (first|assumption|exact Bz.refl _|refine Bz.drew ?_|refine Bz.alloc ?_ _|refine Bz.set ?_ (by first|assumption|exact Nat.le_refl _|exact Bz.size (by assumption)) _ _)) hb2;have r0:=(H4.out.here hz2).c 2 (k*2) rfl HG0.out;have r1:=(H4.out.here hz2).c 2 (k*2+1) rfl HG1.out;have g0:=(H4.out.here hz2).f 2 (k*2) rfl;have g1:=(H4.out.here hz2).f 2 (k*2+1) rfl))
   all_goals
    have H9:=jq (show Kp w [(P,txA (bs.take (k+1)++List.replicate (n-(k+1)) 0),24),(R,frA ((RS 0).take (k+1)++List.replicate (n-(k+1)) 0),26)] ((v2.setCell ⟨R,k*2,none⟩ (.string ⟨fr.n.toArray⟩)).setCell ⟨R,k*2+1,none⟩ (.string ⟨fr.d.toArray⟩)) by
     have h:=(((H4.out.here hz2).set 2 (k*2) rfl (.string ⟨fr.n.toArray⟩)).set 2 (k*2+1) rfl (.string ⟨fr.d.toArray⟩));simp only[List.set_cons_succ,List.set_cons_zero] at h;rw[HSR.out] at h;exact h.tail)
    have HB9:=jq (((HB4.out.call hz2).set HPR.out.2 (k*2) (.string ⟨fr.n.toArray⟩)).set HPR.out.2 (k*2+1) (.string ⟨fr.d.toArray⟩));go_wp2_with fail
    go_roundw
    case rel=>exact⟨k+1,by omega,by go_num,H9,HB9⟩
    case measure=>simp[intOf];omega
  ·obtain rfl:k=n:=by omega
   have H0:=jq (show Kp w [(P,txA (PS 0),24),(R,frA (RS 0),26)] wr by
    have h:=H.out;simp only[Nat.sub_self,List.replicate_zero,List.append_nil] at h;rw[List.take_of_length_le (by have:=HBL0.out;omega),List.take_of_length_le (by have:=HRL0.out;omega),<-HP0.out] at h;exact h)
   obtain⟨hZO,hAB,hFL,hSU,hSB,hSM⟩:=HC2.out
   rw[<-HP0.out] at hSU hSB;have HSU:=jq (fun W (h:Kp w [(P,txA (PS 0),24),(R,frA (RS 0),26)] W)=>hSU W P (h.at_ 0 rfl));have HZO:=jq hZO;have HAB:=jq hAB;have HFL:=jq hFL;have HSB:=jq hSB;have HSM:=jq hSM;obtain⟨h3C,h3A,h3O,h3S⟩:=HC3.out
   have H3C:=jq h3C;have H3A:=jq h3A;have H3O:=jq h3O;have H3S:=jq h3S;clear hZO hAB hFL hSU hSB hSM h3C h3A h3O h3S HC1 HC2 HC3 HIL HIA H HBW HP0 HBL0 HRL0 HPR;generalize Qf (T:Rat)=fT at*;generalize Qf 1=f1 at*;generalize Qa (PS 0).sum=ts at*;generalize Qa (M:Int)=tm at*;unfold Qg QC at HZO HAB H3O H3S;unfold QC Qh at HFL;unfold Qh at HSU HSB H3A;unfold Qq QC at H3C
   try unfold S at HZO
   try unfold S at HAB
   try unfold S at HFL
   try unfold S at HSU
   try unfold S at HSB
   try unfold S at HSM
   try unfold S at H3C
   try unfold S at H3A
   try unfold S at H3O
   try unfold S at H3S
   go_wp2_with fail
   refine(HZO.out _).mono ?_;rintro e v1 ⟨rfl,hb1⟩;go_wp2_with fail
   refine(HAB.out _).mono ?_;rintro e v2 ⟨rfl,hb2⟩;go_wp2_with fail
   refine(HFL.out _).mono ?_;rintro e v3 ⟨rfl,hb3⟩;replace H0:=jq (((H0.out.here hb1).here hb2).here hb3);clear hb1 hb2 hb3 HZO HAB HFL;go_wp2_with fail
   refine(HSU.out _ H0.out).mono ?_;rintro e v4 ⟨rfl,hb4⟩;replace H0:=jq (H0.out.here hb4);clear hb4 HSU;go_wp2_with fail
   refine(HSB.out _).mono ?_;rintro e v5 ⟨rfl,hb5⟩;replace H0:=jq (H0.out.here hb5);clear hb5 HSB;go_wp2_with fail
   refine(HSM.out _).mono ?_;rintro e v6 ⟨rfl,rfl⟩;clear HSM;have hMn:(M:Int)<=1000:=by omega
   go_wp2_with fail
   go_loopw [13] (fun m wy=>∃j d:Nat,m=.int .i64 d/\j+d=M/\Hid (Kp w [(P,txA (PS j),24),(R,frA (RS j),26)] wy)) (fun m _=>(intOf m).toNat)
   case atStart=>exact⟨0,M,rfl,by omega,H0⟩
   case round=>
    clear H0;obtain⟨j,d,rfl,hjd,H⟩:=hrel
    by_cases hd:0<d
    ·have hjn:j<k:=by omega
     have hr:=HRL2.out j;have hpl:=HPL2.out j;have HRJ:=jq (fun i (hi:i<k)=>show(RS j)[i]?=some ((RS j).getD i 0) by rw[List.getD_eq_getElem?_getD,List.getElem?_eq_getElem (by omega)];rfl);have HPJ:=jq (fun i (hi:i<k)=>show(PS j)[i]?=some ((PS j).getD i 0) by rw[List.getD_eq_getElem?_getD,List.getElem?_eq_getElem (by omega)];rfl);have HBJ:=jq (HBL.out j hjn);have HNJ:=jq (HNX.out j hjn);have HBE:=jq (show ZbU (RS j)=XF (RS j) k by unfold ZbU;rw[hr]);rw[HBE.out] at HBJ HNJ;have HC:=jq (fun i k=>H3C.out j i k);have HA:=jq (H3A.out j);have HS3:=jq (H3S.out j);clear hr hpl HBE;obtain⟨wo,rfl⟩:∃W,W=wr:=⟨_,rfl⟩
     go_wp2_with fail
     go_loopw [15,16] (fun b i wx=>∃q:Nat,1<=q/\q<=k/\i=.int .i64 q/\b=.int .i64 (XF (RS j) q:Nat)/\Hid (Kp w [(P,txA (PS j),24),(R,frA (RS j),26)] wx)) (fun _ i _=>k-(intOf i).toNat)
     case atStart=>exact⟨1,Nat.le_refl _,hn0,rfl,by rw[ZdV];rfl,H⟩
     case round=>
      clear H;obtain⟨q,hq1,hq,rfl,rfl,H⟩:=hrel
      by_cases hlt2:q<k
      ·have hbq:=Zcn (RS j) q hq1;have HST:=jq (show XF (RS j) (q+1)=if decide ((RS j).getD (XF (RS j) q) 0<(RS j).getD q 0)=true then q else XF (RS j) q by simp only[decide_eq_true_eq];rfl);generalize XF (RS j) q=bq at*;have HCC:=jq (HC.out q bq);have HE:=jq (Ze9 ((RS j).getD q 0) ((RS j).getD bq 0));have HR0:=jq (Zay (HRJ.out q hlt2));have HR1:=jq (Zaz (HRJ.out q hlt2));have HQ0:=jq (Zay (HRJ.out bq (by omega)));have HQ1:=jq (Zaz (HRJ.out bq (by omega)));clear HC HA HS3 HRJ HPJ HBJ HNJ H3C H3A H3O H3S HBL HNX HPL2 HRL2 HPM HPO HTC HNG;generalize Xe ((RS j).getD q 0) ((RS j).getD bq 0)=z at*;generalize decide ((RS j).getD bq 0<(RS j).getD q 0)=dz at*;generalize Qf ((RS j).getD q 0)=fk at*;generalize Qf ((RS j).getD bq 0)=fq at*;have i1:(0:Int)<=(q:Int):=by omega
       have i2:(q:Int)<(k:Int):=by omega
       have i3:(0:Int)<=(bq:Int):=by omega
       have i4:(bq:Int)<(k:Int):=by omega
       have hS:=jq (fun V (h:Bz wr V)=>(show V.cell? ⟨R,q*2,none⟩=some (.string ⟨fk.n.toArray⟩)/\V.cell? ⟨R,q*2+1,none⟩=some (.string ⟨fk.d.toArray⟩)/\V.cell? ⟨R,bq*2,none⟩=some (.string ⟨fq.n.toArray⟩)/\V.cell? ⟨R,bq*2+1,none⟩=some (.string ⟨fq.d.toArray⟩) from⟨(H.out.here h).c 1 (q*2) rfl HR0.out,(H.out.here h).c 1 (q*2+1) rfl HR1.out,(H.out.here h).c 1 (bq*2) rfl HQ0.out,(H.out.here h).c 1 (bq*2+1) rfl HQ1.out⟩));go_upto_region 19 with (fail)
       by_cases hz:0<z
       ·rw[decide_eq_true hz] at HE;rw[<-HE.out,if_pos rfl] at HST
        go_region_held3 (fun w'=>w'.cell? ⟨R,q*2,none⟩=some (.string ⟨fk.n.toArray⟩)/\w'.cell? ⟨R,q*2+1,none⟩=some (.string ⟨fk.d.toArray⟩)/\w'.cell? ⟨R,bq*2,none⟩=some (.string ⟨fq.n.toArray⟩)/\w'.cell? ⟨R,bq*2+1,none⟩=some (.string ⟨fq.d.toArray⟩))
         (first|(exact hS.out _ (by repeat' (first|assumption|exact Bz.refl _|refine Bz.drew ?_|refine Bz.alloc ?_ _|refine Bz.set ?_ (by first|assumption|exact Nat.le_refl _|exact Bz.size (by assumption)) _ _)))|go_keep)
         ((go_at_call 50;refine(HCC.out _).mono ?_;rintro e v1 ⟨rfl,hb1⟩;have hz1:Bz wr v1:=Bz.call (by repeat' (first|assumption|exact Bz.refl _|refine Bz.drew ?_|refine Bz.alloc ?_ _|refine Bz.set ?_ (by first|assumption|exact Nat.le_refl _|exact Bz.size (by assumption)) _ _)) hb1;have H9:=jq (H.out.here hz1)))
        all_goals
         go_wp2_with fail
         go_roundw
         case rel=>exact⟨q+1,by omega,by omega,by go_num,by rw[HST.out],H9⟩
         case measure=>simp[intOf];omega
       ·rw[decide_eq_false hz] at HE;rw[<-HE.out,if_neg (by decide)] at HST
        go_region_held3 (fun w'=>w'.cell? ⟨R,q*2,none⟩=some (.string ⟨fk.n.toArray⟩)/\w'.cell? ⟨R,q*2+1,none⟩=some (.string ⟨fk.d.toArray⟩)/\w'.cell? ⟨R,bq*2,none⟩=some (.string ⟨fq.n.toArray⟩)/\w'.cell? ⟨R,bq*2+1,none⟩=some (.string ⟨fq.d.toArray⟩))
         (first|(exact hS.out _ (by repeat' (first|assumption|exact Bz.refl _|refine Bz.drew ?_|refine Bz.alloc ?_ _|refine Bz.set ?_ (by first|assumption|exact Nat.le_refl _|exact Bz.size (by assumption)) _ _)))|go_keep)
         ((go_at_call 50;refine(HCC.out _).mono ?_;rintro e v1 ⟨rfl,hb1⟩;have hz1:Bz wr v1:=Bz.call (by repeat' (first|assumption|exact Bz.refl _|refine Bz.drew ?_|refine Bz.alloc ?_ _|refine Bz.set ?_ (by first|assumption|exact Nat.le_refl _|exact Bz.size (by assumption)) _ _)) hb1;have H9:=jq (H.out.here hz1)))
        all_goals
         go_wp2_with fail
         go_roundw
         case rel=>exact⟨q+1,by omega,by omega,by go_num,by rw[HST.out],H9⟩
         case measure=>simp[intOf];omega
      ·obtain rfl:q=k:=by omega
       have hbq:=Zcn (RS j) q hq1;generalize XF (RS j) q=bq at*;obtain⟨hn1,hn2⟩:=HNJ.out
       have HNP:=jq (show(txA (PS j)).setIfInBounds bq (.string ⟨(Qa ((PS j).getD bq 0+1)).toArray⟩)=txA (PS (j+1)) by rw[ZiC,hn1]);have HNR:=jq (show((frA (RS j)).setIfInBounds (bq*2) (.string ⟨(Qf ((RS j).getD bq 0-1)).n.toArray⟩)).setIfInBounds (bq*2+1) (.string ⟨(Qf ((RS j).getD bq 0-1)).d.toArray⟩)=frA (RS (j+1)) by rw[ZiD,hn2]);have HGP:=jq (ZbV (HPJ.out bq hbq));have HQ0:=jq (Zay (HRJ.out bq hbq));have HQ1:=jq (Zaz (HRJ.out bq hbq));have HAD:=jq (HA.out bq);have HSB:=jq (HS3.out bq);clear hn1 hn2 HNJ HC HA HS3 HRJ HPJ HBJ H3C H3A H3S HBL HNX HPL2 HRL2 HPM HPO HTC HNG;generalize Qa ((PS j).getD bq 0+1)=tn at*;generalize Qa ((PS j).getD bq 0)=tp at*;generalize Qf ((RS j).getD bq 0-1)=fn at*;generalize Qf ((RS j).getD bq 0)=fq at*;have i3:(0:Int)<=(bq:Int):=by omega
       have i4:(bq:Int)<(q:Int):=by omega
       have p0:=H.out.c 0 bq rfl HGP.out;go_wp2_with fail
       refine(HAD.out _).mono ?_;rintro e v1 ⟨rfl,hb1⟩;have H1:=jq (H.out.here hb1);clear hb1 H p0;have p0:=H1.out.c 0 bq rfl HGP.out;have g0:=H1.out.f 0 bq rfl
       have H2:=jq (show Kp w [(P,txA (PS (j+1)),24),(R,frA (RS j),26)] (v1.setCell ⟨P,bq,none⟩ (.string ⟨tn.toArray⟩)) by
        have h:=H1.out.set 0 bq rfl (.string ⟨tn.toArray⟩);rw[HNP.out] at h;exact h)
       go_upto_region 22 with (fail)
       clear p0 g0 H1;generalize v1.setCell ⟨P,bq,none⟩ (.string ⟨tn.toArray⟩)=W2 at*;have r0:=H2.out.c 1 (bq*2) rfl HQ0.out;have r1:=H2.out.c 1 (bq*2+1) rfl HQ1.out
       go_region_with (first
        |(go_at_call 49;refine(H3O.out _).mono ?_;rintro e v3 ⟨rfl,hb3⟩;have hz3:Bz W2 v3:=Bz.call (by repeat' (first|assumption|exact Bz.refl _|refine Bz.drew ?_|refine Bz.alloc ?_ _|refine Bz.set ?_ (by first|assumption|exact Nat.le_refl _|exact Bz.size (by assumption)) _ _)) hb3;have s0:=(H2.out.here hz3).c 1 (bq*2) rfl HQ0.out;have s1:=(H2.out.here hz3).c 1 (bq*2+1) rfl HQ1.out)
        |(go_at_call 64;refine(HSB.out _).mono ?_;rintro e v4 ⟨rfl,hb4⟩;have hz4:Bz W2 v4:=Bz.call (by repeat' (first|assumption|exact Bz.refl _|refine Bz.drew ?_|refine Bz.alloc ?_ _|refine Bz.set ?_ (by first|assumption|exact Nat.le_refl _|exact Bz.size (by assumption)) _ _)) hb4;have t0:=(H2.out.here hz4).c 1 (bq*2) rfl HQ0.out;have t1:=(H2.out.here hz4).c 1 (bq*2+1) rfl HQ1.out;have g0:=(H2.out.here hz4).f 1 (bq*2) rfl;have g1:=(H2.out.here hz4).f 1 (bq*2+1) rfl))
       all_goals
        have H9:=jq (show Kp w [(P,txA (PS (j+1)),24),(R,frA (RS (j+1)),26)] ((v4.setCell ⟨R,bq*2,none⟩ (.string ⟨fn.n.toArray⟩)).setCell ⟨R,bq*2+1,none⟩ (.string ⟨fn.d.toArray⟩)) by
         have h:=((H2.out.here hz4).set 1 (bq*2) rfl (.string ⟨fn.n.toArray⟩)).set 1 (bq*2+1) rfl (.string ⟨fn.d.toArray⟩);simp only[List.set_cons_succ,List.set_cons_zero] at h;rw[HNR.out] at h;exact h)
        go_wp2_with fail
        go_roundw
        case rel=>exact⟨j+1,d-1,by rw[show((d-1:Nat):Int)=(d:Int)-1 by omega],by omega,H9⟩
        case measure=>simp[intOf];omega
    ·obtain rfl:d=0:=by omega
     obtain rfl:j=M:=by omega
     have hb:=H.out.at_ 0 rfl;have hge:=H.out.old 0 rfl;have HB:=jq (show BlkB wr P (Qo (Xz T ns) k k) 24 by rw[<-HPM.out,<-ZdU _ _ (HPL2.out j)];exact hb);have HGE:=jq hge;clear hb hge H3C H3A H3O H3S HBL HNX HPL2 HRL2 HPM;go_wp2_with fail
     refine(HNG.out _).mono ?_;rintro e v8 ⟨rfl,rfl⟩;go_wp2_with fail
     first|go_ret2|skip
     rw[HPO.out];exact⟨P,rfl,HB.out,HGE.out,H.out.bl⟩
end
section
theorem ZgS{K:Nat}(hK:K<=2000)(hK1:1<=K)(t p a:Int)(ht:t.natAbs<10^K)(hpp:p.natAbs<10^K)(ha:a.natAbs<10^K)(h0:0<=p)(h1:p<=a)(h2:a≠0):
 Xb 89 #[S (Qa t),S (Qa p),S (Qa a)] (.tuple #[S (Qa (Vm t p a)),S (Qa (t-Vm t p a)),.int .i64 0]):=by
 intro w hp;have H:=jq (Kp.start hp);have lt:=Qd ht;have lp:=Qd hpp;have la:=Qd ha;have HCT:=jq (fun W=>XM (Qa t) W (by omega));have HCP:=jq (fun W=>XM (Qa p) W (by omega));have HCA:=jq (fun W=>XM (Qa a) W (by omega));rw[if_pos (Ys _)] at HCT HCP HCA;have HNA:=jq (fun W=>YE (Qa a) W (by omega));have HNP:=jq (fun W=>YE (Qa p) W (by omega));rw[Qc,decide_eq_false (by omega)] at HNA HNP;have HCM:=jq (fun W=>Xi (Qa p) (Qa a) W (by omega) (by omega));rw[Qc,Qc] at HCM;have hz:=Zlf (k:=p-a) (by omega);have HMU:=jq (fun W=>Yb (Qa t) (Qa p) W (by omega) (by omega));rw[Qc,Qc] at HMU;have lm:=Qd (QB ht hpp);have HNW:=jq (fun W=>ZdQ ⟨Qa (t*p),Qa a⟩ W ⟨by show(Qa _).length<=_;omega,by show(Qa _).length<=_;omega⟩)
 rw[show ZcP ⟨Qa (t*p),Qa a⟩=(Qf (Rat.divInt (t*p) a),0) by
  unfold ZcP;have hd:val (Qa a)≠0:=by rw[Qc];exact h2
  rw[if_neg hd];unfold Fr.rat Fr.dv;rw[if_neg hd];simp only[Qc]] at HNW
 have hrb:RB (K+K) (Rat.divInt (t*p) a):=RB.divInt (QB ht hpp) (Nat.lt_of_lt_of_le ha (Nat.pow_le_pow_right (by omega) (by omega))) h2;have HRD:=jq (ZcE (Qf (Rat.divInt (t*p) a)) ((QF hrb).more (by omega)));rw[Qj,show JY (Rat.divInt (t*p) a)=Vm t p a from rfl] at HRD;have lr:=Qd (show(Vm t p a).natAbs<_ from Zkk hrb (by omega));have HSB:=jq (fun W=>Zau (Qa t) (Qa (Vm t p a)) W (by omega) (by omega));rw[Qc,Qc] at HSB
 have hne:(Qa a==[])=false:=by
  rw[Bool.eq_false_iff];intro e;exact h2 (XN.1 (eq_of_beq e))
 have hem:(Qa a).isEmpty=false:=by
  cases h:Qa a with
  |nil=>rw[h] at hne;cases hne
  |cons _ _=>rfl
 clear hp ht hpp ha h0 h1 h2 lt lp la lm hrb lr;generalize Qy (p-a)=z at*;generalize Qf (Rat.divInt (t*p) a)=fq at*;generalize Qa (t*p)=tm at*;generalize Qa (t-Vm t p a)=ts at*;generalize Qa (Vm t p a)=tr at*;generalize Qa a=ta at*;generalize Qa t=tt at*;generalize Qa p=tp at*;unfold ZaE QC at HNW;unfold Qh at HMU HSB;unfold QC at HRD;unfold S at*
 go_enter Tryz.func89,Tryz.ntmps89
 go_wp2_with fail
 refine(HCT.out _).mono ?_;rintro e w1 ⟨rfl,rfl⟩;go_wp2_with fail
 refine(HCP.out _).mono ?_;rintro e w1 ⟨rfl,rfl⟩;go_wp2_with fail
 refine(HCA.out _).mono ?_;rintro e w1 ⟨rfl,rfl⟩;go_wp2_with fail
 refine(HNA.out _).mono ?_;rintro e w1 ⟨rfl,rfl⟩;go_wp2_with fail
 refine(HNP.out _).mono ?_;rintro e w1 ⟨rfl,rfl⟩;go_wp2_with fail
 refine(HCM.out _).mono ?_;rintro e w1 ⟨rfl,rfl⟩;go_wp2_with fail
 refine(HMU.out _).mono ?_;rintro e w1 ⟨rfl,hb⟩;replace H:=jq (H.out.here hb);clear hb;go_wp2_with fail
 refine(HNW.out _).mono ?_;rintro e w2 ⟨rfl,hb⟩;replace H:=jq ((H.out.here hb).new w2.1.size rfl #[.string ⟨fq.n.toArray⟩,.string ⟨fq.d.toArray⟩] 26);clear hb;go_upto_region 8 with (fail)
 generalize w2.alloc _=W2 at*;have c0:=H.out.c 0 0 rfl rfl;have c1:=H.out.c 0 1 rfl rfl;go_wp2_with fail
 refine(HRD.out _ H.out.pw).mono ?_;rintro e w3 ⟨rfl,hb⟩;replace H:=jq (H.out.here hb);clear hb c0 c1;go_wp2_with fail
 refine(HSB.out _).mono ?_;rintro e w4 ⟨rfl,hb⟩;go_wp2_with fail
 first|go_ret3|skip
 exact⟨rfl,(H.out.here hb).bl⟩
theorem Zjz{t:Int}{ws:List (List UInt8)}(h0:ws≠[])(hn:ws.length<=1000)(hc:∀x∈ws,QJ x=true)(hw:∀x∈ws,0<=val x)(hS:0<Qw ws):Xa (Qa t) ws=0:=by
 unfold Xa;rw[if_neg h0,if_neg (by omega),if_neg,if_neg (by omega)];rw[Ys];intro h
 rcases h with h|h
 ·cases h
 ·obtain⟨x,hx,hb⟩:=List.any_eq_true.1 h
  rw[hc x hx,decide_eq_false (by have:=hw x hx;omega)] at hb
  cases hb
theorem VX(t:Int)(A:Option Addr)(n c:Nat)(ws:List (List UInt8))(w:World)(hp:Env w)(hs:XA w w.1.size A n ws)(ht:(Qa t).length<=1000)(hl:∀x∈ws,x.length<=1000)(hn0:0<n)(hn:n<=1000)(h0:0<=t)(hc:∀x∈ws,QJ x=true)(hw0:∀x∈ws,0<=val x)(hS:t≠0->0<Qw ws):
 Calls Tryz.prog 91 #[S (Qa t),.slice A n c] w (Xo (Yg t (ws.map val)) n w):=by
 have HPO:=jq (show ∀e w',Xo (Yg t (ws.map val)) n w e w'=∃P,e=.returned (.slice (some ⟨P,0,none⟩) n n)/\BlkB w' P (Qo (Yg t (ws.map val)) n n) 24/\w.1.size<=P/\Below w.1.size w w' from fun _ _=>rfl);generalize Xo (Yg t (ws.map val)) n w=post at*;have hlen:ws.length=n:=hs.1.symm;have H:=jq (Below.refl w.1.size w)
 by_cases h:t=0
 ·subst h
  have hz:Yg 0 (ws.map val)=List.replicate n 0:=by
   have e:(ws.map val).map (fun _=>(0:Int))=List.replicate n 0:=by
    rw[List.map_map,<-hlen];exact List.map_const' ..
   unfold Yg
   split
   ·exact e
   ·rename_i hne
    rw[Zjy (by intro x hx;obtain⟨y,hy,rfl⟩:=List.mem_map.1 hx;exact hw0 y hy) (by
     have:=QP (l:=ws.map val) (by intro x hx;obtain⟨y,hy,rfl⟩:=List.mem_map.1 hx;exact hw0 y hy)
     omega)]
    exact e
  have HZ:=jq (show txA (List.replicate n 0)=Qo (Yg 0 (ws.map val)) n n by rw[hz];exact ZdU _ _ (by simp));have hmk:=run_make_row' (P:=Tryz.prog) 58 24 (.string ⟨#[]⟩) 16 Tryz.underlying58 Zid rfl .i64 .i64 n (by omega) (by omega);rw[ZgO,HZ.out] at hmk;rw[show Qa 0=[] from rfl];clear hz HZ hs hl hw0 hc hS ht h0;generalize Qo (Yg 0 (ws.map val)) n n=pa at*;unfold S;go_enter Tryz.func91,Tryz.ntmps91
  go_wp2_with fail
  first|go_ret|skip
  rw[HPO.out];exact⟨_,rfl,heap_alloc_new w _,Nat.le_refl _,(Below.refl _ _).alloc (Nat.le_refl _) _⟩
 ·have hsp:=hS h;have HSP:=jq (fun W (hb:Below w.1.size w W)=>ZhR (Qa t) A n c ws W (hp.here hb) (hs.here hb) ht hl hn0 hn (by rw[Qc]) (by rw[Qc];exact h0) hw0 hsp (Zjz (by intro e;rw[e] at hlen;simp at hlen;omega) (by omega) hc hw0 hsp));rw[Qc] at HSP;have HDV:=jq (show Yg t (ws.map val)=Xz t (ws.map val) by unfold Yg;rw[if_neg];have:(ws.map val).sum=Qw ws:=rfl;omega);rw[HDV.out] at HPO
  have hne:(Qa t==[])=false:=by
   rw[Bool.eq_false_iff];intro e;exact h (XN.1 (eq_of_beq e))
  have hem:(Qa t).isEmpty=false:=by
   cases h:Qa t with
   |nil=>rw[h] at hne;cases hne
   |cons _ _=>rfl
  clear hs hl hw0 hc hS ht h0 h hsp HDV;unfold VD at HSP;generalize Qo (Xz t (ws.map val)) n n=pa at*;generalize Qa t=tt at*;unfold S at*
  go_enter Tryz.func91,Tryz.ntmps91
  go_wp2_with fail
  refine(HSP.out _ H.out).mono ?_;rintro e w1 ⟨P,rfl,hB,hP,hb⟩;have HB:=jq (And.intro hB (And.intro hP hb));clear hB hP hb;go_wp2_with fail
  first|go_ret|skip
  rw[HPO.out];exact⟨P,rfl,HB.out.1,HB.out.2.1,HB.out.2.2⟩
theorem ZcG(f:Fr)(hf:f.Sz 5000):Xb 87 #[QC f] (S (Qa (JY f.rat))):=by
 intro w hp;have H:=jq ((Kp.start hp).new w.1.size rfl #[.string ⟨f.n.toArray⟩,.string ⟨f.d.toArray⟩] 26);have HR:=jq (ZcE f hf);have x0:(w.alloc (.cells #[.string ⟨f.n.toArray⟩,.string ⟨f.d.toArray⟩] 26)).cell? ⟨w.1.size,0,none⟩=some (.string ⟨f.n.toArray⟩):=H.out.c 0 0 rfl rfl;have x1:(w.alloc (.cells #[.string ⟨f.n.toArray⟩,.string ⟨f.d.toArray⟩] 26)).cell? ⟨w.1.size,1,none⟩=some (.string ⟨f.d.toArray⟩):=H.out.c 0 1 rfl rfl;generalize Qa (JY f.rat)=res at*;clear hf hp;unfold QC at*
 unfold S at*
 go_enter Tryz.func87,Tryz.ntmps87
 go_wp2_with fail
 generalize w.alloc _=W at*;refine(HR.out _ H.out.pw).mono ?_;rintro e w2 ⟨rfl,hb⟩;go_wp2_with fail
 first|go_ret|skip
 exact⟨rfl,(H.out.here hb).bl⟩
end
end Go.Proofs.YtpnncoinlopndaaGreatDoor
