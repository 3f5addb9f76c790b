/- Rq5, Rq6, RNm. -/
import Derived.Test.YtpnncoinlopndaaGreatDoorQGSm22
set_option maxRecDepth 100000
set_option maxHeartbeats 10000000
namespace Go.Proofs.YtpnncoinlopndaaGreatDoor
open Go.Lib renaming hid→hdz
section
open Go.RowKit Go.Shelf
attribute [local go_sem ↓] Go.wp_at_zero Go.wp_at_succ
theorem ZnX:(Tryz.prog.info? 26).map (fun i=>(i.zero,i.size,i.bytes))=some (some (.agg #[.string ⟨#[]⟩,.string ⟨#[]⟩]),2,32):=by kernel_rfl
theorem Zg9(n:Nat)(hn:n≤1000000)(w:World):(Instr.makeSlice 92 (.int .i64 (n:Int)) (.int .i64 (n:Int))).run Tryz.prog w=.ok (.slice (some ⟨w.heap.size,0,none⟩) n n) (w.alloc (.cells (frA (List.replicate n 0)) 26)):=by
 obtain⟨i,hi,hzz⟩:=Option.map_eq_some_iff.1 ZnX
 simp only[Prod.mk.injEq] at hzz
 obtain⟨hz,hs,hb⟩:=hzz
 have h:=run_make (P:=Tryz.prog) w 92 26 i _ Tryz.underlying92 hi hz .i64 .i64 n n (by omega) (by omega) (by rw[hb];omega) (by omega)
 rw[hs] at h
 simp only[Int.toNat_natCast] at h
 rw[show madeCells (Value.agg #[.string ⟨#[]⟩,.string ⟨#[]⟩]).cells (n*2)=frA (List.replicate n 0) from ZlE n] at h
 exact h
theorem Kp.two{w w1:World}(h:Kp w [] w1)(c1 c2:Array Value)(T1 T2:TypeId):
 Kp w [(w1.heap.size+1,c2,T2),(w1.heap.size,c1,T1)] ((w1.alloc (.cells c1 T1)).alloc (.cells c2 T2)).drew:=((h.new _ rfl c1 T1).new _ (by simp) c2 T2).drew
theorem ZnD{t:List UInt8}{ws:List (List UInt8)}{k:Nat}{x:Fr}(h:(idl t ws)[k]?=some x):∃v,(ws.map val)[k]?=some v∧x=frOf (Rat.divInt (val t*v) (ws.map val).sum):=by
 unfold idl at h
 rw[List.getElem?_map,Option.map_eq_some_iff] at h
 obtain⟨a,ha,rfl⟩:=h
 exact⟨val a,by simp[ha],rfl⟩
theorem Zfb(rs:List Rat):bestTo rs 1=0:=by
 show(if rs.getD 0 0<rs.getD 0 0 then 0 else 0)=0
 split<;>rfl
theorem ZeB(rs:List Rat):∀k,1≤k→bestTo rs k<k
 |0,h=>absurd h (by omega)
 |1,_=>by rw[Zfb];omega
 |k+2,_=>by
  have:=ZeB rs (k+1) (by omega)
  show(if rs.getD (bestTo rs (k+1)) 0<rs.getD (k+1) 0 then k+1 else bestTo rs (k+1))<k+2
  split<;>omega
theorem ZiM(t:List UInt8)(A:Option Addr)(n c:Nat)(ws:List (List UInt8))(w:World)(hp:Env w)(hs:Strs w w.heap.size A n ws)(ht:t.length≤1000)(hl:∀x∈ws,x.length≤1000)(hn0:0<n)(hn:n≤1000)(htc:t=txtL (val t))(h0:0≤val t)(hw0:∀x∈ws,0≤val x)(hS:0<sumV ws)(hc:splitC t ws=0):
 Calls Tryz.prog 140 #[S t,.slice A n c] w (RowPost2 (posL (val t) (ws.map val)) n 0 w):=by
 have HPO:=hdz (show ∀e w',RowPost2 (posL (val t) (ws.map val)) n 0 w e w'=∃P,e=.returned (.tuple #[.slice (some ⟨P,0,none⟩) n n,.int .i64 0])∧BlkB w' P (partA (posL (val t) (ws.map val)) n n) 24∧w.heap.size≤P∧Below w.heap.size w w' from fun _ _=>rfl)
 generalize RowPost2 (posL (val t) (ws.map val)) n 0 w=post at*
 have HID:=hdz (fun W (hb:Below w.heap.size w W)=>ZiL t A n c ws W (hs.here hb) ht hl hn hc)
 have hlen:(ws.map val).length=n:=by rw[List.length_map];exact hs.1.symm
 have hsn:0<(ws.map val).sum:=hS
 have hn0s:∀x∈ws.map val,0≤x:=by intro x hx;obtain⟨y,hy,rfl⟩:=List.mem_map.1 hx;exact hw0 y hy
 obtain⟨L,hL⟩:∃L:Nat,L=1000:=⟨_,rfl⟩
 have htv:(val t).natAbs<10^(L+4):=Zai (by omega)
 have hsv:(ws.map val).sum.natAbs<10^(L+4):=Zc6 (L:=L) (fun a ha=>Zai (by have:=hl a ha;omega)) (by have:=hs.1;omega)
 obtain⟨K,hK⟩:∃K:Nat,K=L+4:=⟨_,rfl⟩
 rw[←hK] at htv hsv
 have HC1:=hdz (fun k v (hk:(ws.map val)[k]?=some v)=>Zgr (by omega) (by omega) h0 hn0s hsn htv hsv hk)
 have HC2:=hdz (Zgs (K:=K) (by omega) (by omega) h0 hn0s hsn htv (by omega))
 have HC3:=hdz (Zgt (K:=K) (by omega) (by omega) h0 hn0s hsn htv hsv)
 have HBL:=hdz (fun j (hj:j<n)=>ZmZ (t:=val t) hsn (j:=j) (by omega))
 have HNX:=hdz (fun j (hj:j<n)=>Zm0 (t:=val t) hsn (j:=j) (by omega))
 have hM:=Zkf (t:=val t) hsn
 have hm0:=Zbl (val t) hsn
 have HPL:=hdz (fun j=>Zkd (val t) (ws.map val) j)
 have HRL:=hdz (fun j=>Zke (val t) (ws.map val) j)
 have HP0:=hdz (ZlF (val t) (ws.map val))
 have HPM:=hdz (ZlH (val t) (ws.map val))
 have HIA:=hdz (fun k x (h:(idl t ws)[k]?=some x)=>ZnD h)
 have HTC:=hdz htc
 have HNG:=hdz (fun W=>Za5 t W (by omega))
 rw[show decide (val t<0)=false by simpa using h0] at HNG
 have hbl:(baseL (val t) (ws.map val)).length=n:=by simpa[baseL] using hlen
 have hmk:=run_make_row' (P:=Tryz.prog) 58 24 (.string ⟨#[]⟩) 16 Tryz.underlying58 ZkY rfl .i64 .i64 n (by omega) (by omega)
 rw[ZhT] at hmk
 have hmf:=Zg9 n (by omega)
 have H:=hdz (Kp.start hp)
 rw[hlen] at HC2 HBL hM
 have HPL2:=hdz (fun j=>(HPL.out j).trans hlen);have HRL2:=hdz (fun j=>(HRL.out j).trans hlen)
 rw[←htc] at HC2
 clear hp hs ht hl htc h0 hw0 hS hc hsn hn0s htv hsv hK hL HPL HRL hlen
 generalize ws.map val=ns at*
 generalize hmm:missL (val t) ns=mm at*
 obtain⟨M,rfl⟩:∃M:Nat,mm=(M:Int):=⟨mm.toNat,by omega⟩
 simp only[Int.toNat_natCast] at hM HPM
 generalize val t=T at*
 unfold IdPost at HID
 unfold S at*
 go_enter Tryz.func140,Tryz.ntmps140
 go_wp2_with fail
 refine(HID.out _ H.out.bl).mono ?_
 rintro e w1 ⟨A1,c1,rfl,hO,hb⟩
 have HIL:=hdz (hO.sl ZjD)
 have hil:(idl t ws).length=n:=hO.facts.1.symm
 replace H:=hdz (H.out.here hb)
 clear hb hO HID
 generalize idl t ws=il at*
 go_upto_region 5 with (fail)
 go_cut [9,10] (fun s u wc=>∃P R:Nat,s=.slice (some ⟨P,0,none⟩) n n∧u=.slice (some ⟨R,0,none⟩) n n∧Hid (Kp w [(P,txA (List.replicate n 0),24),(R,frA (List.replicate n 0),26)] wc)∧Hid (Bz w1 wc)∧Hid (w1.heap.size≤P∧w1.heap.size≤R))
 case first=>
  have HB:=hdz (fun(c1 c2:Obj)=>(((Bz.refl w1).alloc c1).alloc c2).drew)
  clear HC1 HC2 HC3 HBL HNX HPL2 HRL2 HP0 HPM HIA HTC HNG HIL hbl hil hmm
  go_region
  all_goals
   go_wp2_with fail
   go_meet
   have H3:=H.out.two
   first
    |exact⟨_,_,rfl,rfl,H3 _ _ _ _,HB.out _ _,Nat.le_succ _,Nat.le_refl _⟩
    |exact⟨_,_,rfl,rfl,(H3 _ _ _ _).perm (.swap _ _ _),HB.out _ _,Nat.le_refl _,Nat.le_succ _⟩
 case rest=>
 clear hmk hmf H
 obtain⟨P,R,rfl,rfl,HK,HBW,HPR⟩:=hcut
 obtain⟨w0,rfl⟩:∃W,W=wc:=⟨_,rfl⟩
 have H1:=hdz (show Kp w [(P,txA ((baseL T ns).take 0++List.replicate (n-0) 0),24),(R,frA ((RSt T ns 0).take 0++List.replicate (n-0) 0),26)] w0 from HK.out)
 clear HK
 generalize baseL T ns=bs at*
 have hrl:=HRL2.out 0
 generalize RSt T ns=RS at*
 generalize PSt T ns=PS at*
 have HBL0:=hdz hbl;have HRL0:=hdz hrl
 clear hbl hrl hil
 go_wp2_with fail
 go_loopw [11] (fun i wr=>∃k:Nat,k≤n∧i=.int .i64 k∧Hid (Kp w [(P,txA (bs.take k++List.replicate (n-k) 0),24),(R,frA ((RS 0).take k++List.replicate (n-k) 0),26)] wr)∧Hid (Bz w1 wr)) (fun i _=>n-(intOf i).toNat)
 case atStart=>exact⟨0,Nat.zero_le _,rfl,H1,HBW⟩
 case round=>
  clear H1 HBW
  obtain⟨k,hk,rfl,H,HBW⟩:=hrel
  by_cases hlt:k<n
  ·obtain⟨b,off,x,rfl,hb,hx,d0,d1⟩:=(HIL.out.below HBW.out).fr hlt
   obtain⟨v,hv,rfl⟩:=HIA.out k x hx
   obtain⟨hAB,hFL,hOF,hSB⟩:=HC1.out k v hv
   have hbg:bs[k]?=some (bs.getD k 0):=by rw[List.getD_eq_getElem?_getD,List.getElem?_eq_getElem (by have:=HBL0.out;omega)];rfl
   have hrg:(RS 0)[k]?=some ((RS 0).getD k 0):=by rw[List.getD_eq_getElem?_getD,List.getElem?_eq_getElem (by have:=HRL0.out;omega)];rfl
   have HSP:=hdz (show(txA (bs.take k++List.replicate (n-k) 0)).setIfInBounds k (.string ⟨(txtL (bs.getD k 0)).toArray⟩)=txA (bs.take (k+1)++List.replicate (n-(k+1)) 0) by
    rw[Zkb,←HBL0.out,ZhR bs 0 k hbg])
   have HSR:=hdz (show((frA ((RS 0).take k++List.replicate (n-k) 0)).setIfInBounds (k*2) (.string ⟨(frOf ((RS 0).getD k 0)).n.toArray⟩)).setIfInBounds (k*2+1) (.string ⟨(frOf ((RS 0).getD k 0)).d.toArray⟩)=frA ((RS 0).take (k+1)++List.replicate (n-(k+1)) 0) by
    rw[Zkc,←HRL0.out,ZhR (RS 0) 0 k hrg])
   have HGP:=hdz (show(txA (bs.take k++List.replicate (n-k) 0))[k]?=some (.string ⟨(txtL 0).toArray⟩) from Zez (by rw[←HBL0.out];exact ZhS bs 0 k (by have:=HBL0.out;omega)))
   have HGQ:=hdz (show(txA (bs.take (k+1)++List.replicate (n-(k+1)) 0))[k]?=some (.string ⟨(txtL (bs.getD k 0)).toArray⟩) from Zez (by
    rw[List.getElem?_append_left (by rw[List.length_take];have:=HBL0.out;omega),List.getElem?_take_of_lt (by omega),hbg]))
   have hfg:=ZhS (RS 0) 0 k (by have:=HRL0.out;omega)
   rw[HRL0.out] at hfg
   have HG0:=hdz (Zdi hfg);have HG1:=hdz (Zdj hfg)
   have HAB:=hdz hAB;have HFL:=hdz hFL;have HOF:=hdz hOF;have HSB:=hdz hSB
   clear hx hv hAB hFL hOF hSB hbg hrg hfg HC1 HC2 HC3 HNX HPM HPO HNG HIA HBL HPL2 HRL2 HP0 HTC
   generalize frOf (Rat.divInt (T*v) ns.sum)=fq at*
   generalize txtL (bs.getD k 0)=tb at*
   generalize frOf ((bs.getD k 0:Int):Rat)=fb at*
   generalize frOf ((RS 0).getD k 0)=fr at*
   unfold FracPost FrV at HAB HOF HSB
   unfold FrV StrPost at HFL
   unfold S at HAB HFL HOF HSB
   go_wp2_with fail
   refine(HAB.out _).mono ?_
   rintro e w2 ⟨rfl,hb2⟩
   have H2:=hdz ((H.out.here hb2).new w2.heap.size rfl #[.string ⟨fq.n.toArray⟩,.string ⟨fq.d.toArray⟩] 26)
   have HB2:=hdz ((HBW.out.call hb2).alloc (.cells #[.string ⟨fq.n.toArray⟩,.string ⟨fq.d.toArray⟩] 26))
   clear hb2 d0 d1 H HBW HAB
   go_upto_region 10 with (fail)
   generalize w2.alloc _=W2 at*
   generalize w2.heap.size=X at*
   have c0:=H2.out.c 0 0 rfl rfl;have c1:=H2.out.c 0 1 rfl rfl
   go_wp2_with fail
   refine(HFL.out _).mono ?_
   rintro e w3 ⟨rfl,hb3⟩
   have H3:=hdz (H2.out.here hb3)
   have HB3:=hdz (HB2.out.call hb3)
   clear hb3 c0 c1 H2 HB2 HFL
   have p1:=H3.out.c 1 k rfl HGP.out;have g1:=H3.out.f 1 k rfl
   have H4:=hdz (show Kp w [(X,#[.string ⟨fq.n.toArray⟩,.string ⟨fq.d.toArray⟩],26),(P,txA (bs.take (k+1)++List.replicate (n-(k+1)) 0),24),(R,frA ((RS 0).take k++List.replicate (n-k) 0),26)] (w3.setCell ⟨P,k,none⟩ (.string ⟨tb.toArray⟩)) by
    have h:=H3.out.set 1 k rfl (.string ⟨tb.toArray⟩)
    rw[HSP.out] at h
    exact h)
   have HB4:=hdz (HB3.out.set HPR.out.1 k (.string ⟨tb.toArray⟩))
   go_upto_region 11 with (fail)
   clear p1 g1 H3 HB3
   generalize w3.setCell ⟨P,k,none⟩ (.string ⟨tb.toArray⟩)=W4 at*
   have i1:(0:Int)≤(k:Int):=by omega
   have i2:(k:Int)<(n:Int):=by omega
   have hS:=hdz (fun V (h:Bz W4 V)=>(show V.cell? ⟨X,0,none⟩=some (.string ⟨fq.n.toArray⟩)∧V.cell? ⟨X,1,none⟩=some (.string ⟨fq.d.toArray⟩)∧V.cell? ⟨P,k,none⟩=some (.string ⟨tb.toArray⟩) from⟨(H4.out.here h).c 0 0 rfl rfl,(H4.out.here h).c 0 1 rfl rfl,(H4.out.here h).c 1 k rfl HGQ.out⟩))
   have hSS:=hdz (fun V (h:Bz W4 V) u=>(show(V.setCell ⟨R,k*2,none⟩ u).cell? ⟨X,0,none⟩=some (.string ⟨fq.n.toArray⟩)∧(V.setCell ⟨R,k*2,none⟩ u).cell? ⟨X,1,none⟩=some (.string ⟨fq.d.toArray⟩)∧(V.setCell ⟨R,k*2,none⟩ u).cell? ⟨P,k,none⟩=some (.string ⟨tb.toArray⟩) from⟨((H4.out.here h).set 2 (k*2) rfl u).c 0 0 rfl rfl,((H4.out.here h).set 2 (k*2) rfl u).c 0 1 rfl rfl,((H4.out.here h).set 2 (k*2) rfl u).c 1 k rfl HGQ.out⟩))
   have hS2:=hdz (fun V (h:Bz W4 V) u v=>(show((V.setCell ⟨R,k*2,none⟩ u).setCell ⟨R,k*2+1,none⟩ v).cell? ⟨X,0,none⟩=some (.string ⟨fq.n.toArray⟩)∧((V.setCell ⟨R,k*2,none⟩ u).setCell ⟨R,k*2+1,none⟩ v).cell? ⟨X,1,none⟩=some (.string ⟨fq.d.toArray⟩)∧((V.setCell ⟨R,k*2,none⟩ u).setCell ⟨R,k*2+1,none⟩ v).cell? ⟨P,k,none⟩=some (.string ⟨tb.toArray⟩) from⟨(((H4.out.here h).set 2 (k*2) rfl u).set 2 (k*2+1) rfl v).c 0 0 rfl rfl,(((H4.out.here h).set 2 (k*2) rfl u).set 2 (k*2+1) rfl v).c 0 1 rfl rfl,(((H4.out.here h).set 2 (k*2) rfl u).set 2 (k*2+1) rfl v).c 1 k rfl HGQ.out⟩))
   go_region_held3 (fun w'=>w'.cell? ⟨X,0,none⟩=some (.string ⟨fq.n.toArray⟩)∧w'.cell? ⟨X,1,none⟩=some (.string ⟨fq.d.toArray⟩)∧w'.cell? ⟨P,k,none⟩=some (.string ⟨tb.toArray⟩))
    (first|(exact hS2.out _ (by assumption) _ _)|(exact hSS.out _ (by assumption) _)|(exact hS.out _ (by repeat' (first|assumption|exact Bz.refl _|refine Bz.drew ?_|refine Bz.alloc ?_ _|refine Bz.set ?_ (by first|assumption|exact Nat.le_refl _|exact Bz.size (by assumption)) _ _)))|go_keep)
    (first
      |(go_at_call 49;refine(HOF.out _).mono ?_;rintro e v1 ⟨rfl,hb1⟩;have hz1:Bz W4 v1:=Bz.call (by repeat' (first|assumption|exact Bz.refl _|refine Bz.drew ?_|refine Bz.alloc ?_ _|refine Bz.set ?_ (by first|assumption|exact Nat.le_refl _|exact Bz.size (by assumption)) _ _)) hb1)
      |(go_at_call 64;refine(HSB.out _).mono ?_;rintro e v2 ⟨rfl,hb2⟩;have hz2:Bz W4 v2:=Bz.call (by repeat' (first|assumption|exact Bz.refl _|refine Bz.drew ?_|refine Bz.alloc ?_ _|refine Bz.set ?_ (by first|assumption|exact Nat.le_refl _|exact Bz.size (by assumption)) _ _)) hb2;have r0:=(H4.out.here hz2).c 2 (k*2) rfl HG0.out;have r1:=(H4.out.here hz2).c 2 (k*2+1) rfl HG1.out;have g0:=(H4.out.here hz2).f 2 (k*2) rfl;have g1:=(H4.out.here hz2).f 2 (k*2+1) rfl))
   all_goals
    have H9:=hdz (show Kp w [(P,txA (bs.take (k+1)++List.replicate (n-(k+1)) 0),24),(R,frA ((RS 0).take (k+1)++List.replicate (n-(k+1)) 0),26)] ((v2.setCell ⟨R,k*2,none⟩ (.string ⟨fr.n.toArray⟩)).setCell ⟨R,k*2+1,none⟩ (.string ⟨fr.d.toArray⟩)) by
     have h:=(((H4.out.here hz2).set 2 (k*2) rfl (.string ⟨fr.n.toArray⟩)).set 2 (k*2+1) rfl (.string ⟨fr.d.toArray⟩))
     simp only[List.set_cons_succ,List.set_cons_zero] at h
     rw[HSR.out] at h
     exact h.tail)
    have HB9:=hdz (((HB4.out.call hz2).set HPR.out.2 (k*2) (.string ⟨fr.n.toArray⟩)).set HPR.out.2 (k*2+1) (.string ⟨fr.d.toArray⟩))
    go_wp2_with fail
    go_roundw
    case rel=>exact⟨k+1,by omega,by go_num,H9,HB9⟩
    case measure=>simp[intOf];omega
  ·obtain rfl:k=n:=by omega
   have H0:=hdz (show Kp w [(P,txA (PS 0),24),(R,frA (RS 0),26)] wr by
    have h:=H.out
    simp only[Nat.sub_self,List.replicate_zero,List.append_nil] at h
    rw[List.take_of_length_le (by have:=HBL0.out;omega),List.take_of_length_le (by have:=HRL0.out;omega),←HP0.out] at h
    exact h)
   obtain⟨hZO,hAB,hFL,hSU,hSB,hSM⟩:=HC2.out
   rw[←HP0.out] at hSU hSB
   have HSU:=hdz (fun W (h:Kp w [(P,txA (PS 0),24),(R,frA (RS 0),26)] W)=>hSU W P (h.at_ 0 rfl))
   have HZO:=hdz hZO;have HAB:=hdz hAB;have HFL:=hdz hFL;have HSB:=hdz hSB;have HSM:=hdz hSM
   obtain⟨h3C,h3A,h3O,h3S⟩:=HC3.out
   have H3C:=hdz h3C;have H3A:=hdz h3A;have H3O:=hdz h3O;have H3S:=hdz h3S
   clear hZO hAB hFL hSU hSB hSM h3C h3A h3O h3S HC1 HC2 HC3 HIL HIA H HBW HP0 HBL0 HRL0 HPR
   generalize frOf (T:Rat)=fT at*
   generalize frOf 1=f1 at*
   generalize txtL (PS 0).sum=ts at*
   generalize txtL (M:Int)=tm at*
   unfold FracPost FrV at HZO HAB H3O H3S
   unfold FrV StrPost at HFL
   unfold StrPost at HSU HSB H3A
   unfold CmpIPost FrV at H3C
   try unfold S at HZO
   try unfold S at HAB
   try unfold S at HFL
   try unfold S at HSU
   try unfold S at HSB
   try unfold S at HSM
   try unfold S at H3C
   try unfold S at H3A
   try unfold S at H3O
   try unfold S at H3S
   go_wp2_with fail
   refine(HZO.out _).mono ?_
   rintro e v1 ⟨rfl,hb1⟩
   go_wp2_with fail
   refine(HAB.out _).mono ?_
   rintro e v2 ⟨rfl,hb2⟩
   go_wp2_with fail
   refine(HFL.out _).mono ?_
   rintro e v3 ⟨rfl,hb3⟩
   replace H0:=hdz (((H0.out.here hb1).here hb2).here hb3)
   clear hb1 hb2 hb3 HZO HAB HFL
   go_wp2_with fail
   refine(HSU.out _ H0.out).mono ?_
   rintro e v4 ⟨rfl,hb4⟩
   replace H0:=hdz (H0.out.here hb4)
   clear hb4 HSU
   go_wp2_with fail
   refine(HSB.out _).mono ?_
   rintro e v5 ⟨rfl,hb5⟩
   replace H0:=hdz (H0.out.here hb5)
   clear hb5 HSB
   go_wp2_with fail
   refine(HSM.out _).mono ?_
   rintro e v6 ⟨rfl,rfl⟩
   clear HSM
   have hMn:(M:Int)≤1000:=by omega
   go_wp2_with fail
   go_loopw [13] (fun m wy=>∃j d:Nat,m=.int .i64 d∧j+d=M∧Hid (Kp w [(P,txA (PS j),24),(R,frA (RS j),26)] wy)) (fun m _=>(intOf m).toNat)
   case atStart=>exact⟨0,M,rfl,by omega,H0⟩
   case round=>
    clear H0
    obtain⟨j,d,rfl,hjd,H⟩:=hrel
    by_cases hd:0<d
    ·have hjn:j<k:=by omega
     have hr:=HRL2.out j;have hpl:=HPL2.out j
     have HRJ:=hdz (fun i (hi:i<k)=>show(RS j)[i]?=some ((RS j).getD i 0) by rw[List.getD_eq_getElem?_getD,List.getElem?_eq_getElem (by omega)];rfl)
     have HPJ:=hdz (fun i (hi:i<k)=>show(PS j)[i]?=some ((PS j).getD i 0) by rw[List.getD_eq_getElem?_getD,List.getElem?_eq_getElem (by omega)];rfl)
     have HBJ:=hdz (HBL.out j hjn)
     have HNJ:=hdz (HNX.out j hjn)
     have HBE:=hdz (show bestL (RS j)=bestTo (RS j) k by unfold bestL;rw[hr])
     rw[HBE.out] at HBJ HNJ
     have HC:=hdz (fun i k=>H3C.out j i k);have HA:=hdz (H3A.out j);have HS3:=hdz (H3S.out j)
     clear hr hpl HBE
     obtain⟨wo,rfl⟩:∃W,W=wr:=⟨_,rfl⟩
     go_wp2_with fail
     go_loopw [15,16] (fun b i wx=>∃q:Nat,1≤q∧q≤k∧i=.int .i64 q∧b=.int .i64 (bestTo (RS j) q:Nat)∧Hid (Kp w [(P,txA (PS j),24),(R,frA (RS j),26)] wx)) (fun _ i _=>k-(intOf i).toNat)
     case atStart=>exact⟨1,Nat.le_refl _,hn0,rfl,by rw[Zfb];rfl,H⟩
     case round=>
      clear H
      obtain⟨q,hq1,hq,rfl,rfl,H⟩:=hrel
      by_cases hlt2:q<k
      ·have hbq:=ZeB (RS j) q hq1
       have HST:=hdz (show bestTo (RS j) (q+1)=if decide ((RS j).getD (bestTo (RS j) q) 0<(RS j).getD q 0)=true then q else bestTo (RS j) q by simp only[decide_eq_true_eq];rfl)
       generalize bestTo (RS j) q=bq at*
       have HCC:=hdz (HC.out q bq)
       have HE:=hdz (ZgY ((RS j).getD q 0) ((RS j).getD bq 0))
       have HR0:=hdz (Zdi (HRJ.out q hlt2));have HR1:=hdz (Zdj (HRJ.out q hlt2))
       have HQ0:=hdz (Zdi (HRJ.out bq (by omega)));have HQ1:=hdz (Zdj (HRJ.out bq (by omega)))
       clear HC HA HS3 HRJ HPJ HBJ HNJ H3C H3A H3O H3S HBL HNX HPL2 HRL2 HPM HPO HTC HNG
       generalize cmpR ((RS j).getD q 0) ((RS j).getD bq 0)=z at*
       generalize decide ((RS j).getD bq 0<(RS j).getD q 0)=dz at*
       generalize frOf ((RS j).getD q 0)=fk at*
       generalize frOf ((RS j).getD bq 0)=fq at*
       have i1:(0:Int)≤(q:Int):=by omega
       have i2:(q:Int)<(k:Int):=by omega
       have i3:(0:Int)≤(bq:Int):=by omega
       have i4:(bq:Int)<(k:Int):=by omega
       have hS:=hdz (fun V (h:Bz wr V)=>(show V.cell? ⟨R,q*2,none⟩=some (.string ⟨fk.n.toArray⟩)∧V.cell? ⟨R,q*2+1,none⟩=some (.string ⟨fk.d.toArray⟩)∧V.cell? ⟨R,bq*2,none⟩=some (.string ⟨fq.n.toArray⟩)∧V.cell? ⟨R,bq*2+1,none⟩=some (.string ⟨fq.d.toArray⟩) from⟨(H.out.here h).c 1 (q*2) rfl HR0.out,(H.out.here h).c 1 (q*2+1) rfl HR1.out,(H.out.here h).c 1 (bq*2) rfl HQ0.out,(H.out.here h).c 1 (bq*2+1) rfl HQ1.out⟩))
       go_upto_region 19 with (fail)
       by_cases hz:0<z
       ·rw[decide_eq_true hz] at HE
        rw[←HE.out,if_pos rfl] at HST
        go_region_held3 (fun w'=>w'.cell? ⟨R,q*2,none⟩=some (.string ⟨fk.n.toArray⟩)∧w'.cell? ⟨R,q*2+1,none⟩=some (.string ⟨fk.d.toArray⟩)∧w'.cell? ⟨R,bq*2,none⟩=some (.string ⟨fq.n.toArray⟩)∧w'.cell? ⟨R,bq*2+1,none⟩=some (.string ⟨fq.d.toArray⟩))
         (first|(exact hS.out _ (by repeat' (first|assumption|exact Bz.refl _|refine Bz.drew ?_|refine Bz.alloc ?_ _|refine Bz.set ?_ (by first|assumption|exact Nat.le_refl _|exact Bz.size (by assumption)) _ _)))|go_keep)
         ((go_at_call 50;refine(HCC.out _).mono ?_;rintro e v1 ⟨rfl,hb1⟩;have hz1:Bz wr v1:=Bz.call (by repeat' (first|assumption|exact Bz.refl _|refine Bz.drew ?_|refine Bz.alloc ?_ _|refine Bz.set ?_ (by first|assumption|exact Nat.le_refl _|exact Bz.size (by assumption)) _ _)) hb1;have H9:=hdz (H.out.here hz1)))
        all_goals
         go_wp2_with fail
         go_roundw
         case rel=>exact⟨q+1,by omega,by omega,by go_num,by rw[HST.out],H9⟩
         case measure=>simp[intOf];omega
       ·rw[decide_eq_false hz] at HE
        rw[←HE.out,if_neg (by decide)] at HST
        go_region_held3 (fun w'=>w'.cell? ⟨R,q*2,none⟩=some (.string ⟨fk.n.toArray⟩)∧w'.cell? ⟨R,q*2+1,none⟩=some (.string ⟨fk.d.toArray⟩)∧w'.cell? ⟨R,bq*2,none⟩=some (.string ⟨fq.n.toArray⟩)∧w'.cell? ⟨R,bq*2+1,none⟩=some (.string ⟨fq.d.toArray⟩))
         (first|(exact hS.out _ (by repeat' (first|assumption|exact Bz.refl _|refine Bz.drew ?_|refine Bz.alloc ?_ _|refine Bz.set ?_ (by first|assumption|exact Nat.le_refl _|exact Bz.size (by assumption)) _ _)))|go_keep)
         ((go_at_call 50;refine(HCC.out _).mono ?_;rintro e v1 ⟨rfl,hb1⟩;have hz1:Bz wr v1:=Bz.call (by repeat' (first|assumption|exact Bz.refl _|refine Bz.drew ?_|refine Bz.alloc ?_ _|refine Bz.set ?_ (by first|assumption|exact Nat.le_refl _|exact Bz.size (by assumption)) _ _)) hb1;have H9:=hdz (H.out.here hz1)))
        all_goals
         go_wp2_with fail
         go_roundw
         case rel=>exact⟨q+1,by omega,by omega,by go_num,by rw[HST.out],H9⟩
         case measure=>simp[intOf];omega
      ·obtain rfl:q=k:=by omega
       have hbq:=ZeB (RS j) q hq1
       generalize bestTo (RS j) q=bq at*
       obtain⟨hn1,hn2⟩:=HNJ.out
       have HNP:=hdz (show(txA (PS j)).setIfInBounds bq (.string ⟨(txtL ((PS j).getD bq 0+1)).toArray⟩)=txA (PS (j+1)) by rw[Zkb,hn1])
       have HNR:=hdz (show((frA (RS j)).setIfInBounds (bq*2) (.string ⟨(frOf ((RS j).getD bq 0-1)).n.toArray⟩)).setIfInBounds (bq*2+1) (.string ⟨(frOf ((RS j).getD bq 0-1)).d.toArray⟩)=frA (RS (j+1)) by rw[Zkc,hn2])
       have HGP:=hdz (Zez (HPJ.out bq hbq))
       have HQ0:=hdz (Zdi (HRJ.out bq hbq));have HQ1:=hdz (Zdj (HRJ.out bq hbq))
       have HAD:=hdz (HA.out bq);have HSB:=hdz (HS3.out bq)
       clear hn1 hn2 HNJ HC HA HS3 HRJ HPJ HBJ H3C H3A H3S HBL HNX HPL2 HRL2 HPM HPO HTC HNG
       generalize txtL ((PS j).getD bq 0+1)=tn at*
       generalize txtL ((PS j).getD bq 0)=tp at*
       generalize frOf ((RS j).getD bq 0-1)=fn at*
       generalize frOf ((RS j).getD bq 0)=fq at*
       have i3:(0:Int)≤(bq:Int):=by omega
       have i4:(bq:Int)<(q:Int):=by omega
       have p0:=H.out.c 0 bq rfl HGP.out
       go_wp2_with fail
       refine(HAD.out _).mono ?_
       rintro e v1 ⟨rfl,hb1⟩
       have H1:=hdz (H.out.here hb1)
       clear hb1 H p0
       have p0:=H1.out.c 0 bq rfl HGP.out;have g0:=H1.out.f 0 bq rfl
       have H2:=hdz (show Kp w [(P,txA (PS (j+1)),24),(R,frA (RS j),26)] (v1.setCell ⟨P,bq,none⟩ (.string ⟨tn.toArray⟩)) by
        have h:=H1.out.set 0 bq rfl (.string ⟨tn.toArray⟩)
        rw[HNP.out] at h
        exact h)
       go_upto_region 22 with (fail)
       clear p0 g0 H1
       generalize v1.setCell ⟨P,bq,none⟩ (.string ⟨tn.toArray⟩)=W2 at*
       have r0:=H2.out.c 1 (bq*2) rfl HQ0.out;have r1:=H2.out.c 1 (bq*2+1) rfl HQ1.out
       go_region_with (first
        |(go_at_call 49;refine(H3O.out _).mono ?_;rintro e v3 ⟨rfl,hb3⟩;have hz3:Bz W2 v3:=Bz.call (by repeat' (first|assumption|exact Bz.refl _|refine Bz.drew ?_|refine Bz.alloc ?_ _|refine Bz.set ?_ (by first|assumption|exact Nat.le_refl _|exact Bz.size (by assumption)) _ _)) hb3;have s0:=(H2.out.here hz3).c 1 (bq*2) rfl HQ0.out;have s1:=(H2.out.here hz3).c 1 (bq*2+1) rfl HQ1.out)
        |(go_at_call 64;refine(HSB.out _).mono ?_;rintro e v4 ⟨rfl,hb4⟩;have hz4:Bz W2 v4:=Bz.call (by repeat' (first|assumption|exact Bz.refl _|refine Bz.drew ?_|refine Bz.alloc ?_ _|refine Bz.set ?_ (by first|assumption|exact Nat.le_refl _|exact Bz.size (by assumption)) _ _)) hb4;have t0:=(H2.out.here hz4).c 1 (bq*2) rfl HQ0.out;have t1:=(H2.out.here hz4).c 1 (bq*2+1) rfl HQ1.out;have g0:=(H2.out.here hz4).f 1 (bq*2) rfl;have g1:=(H2.out.here hz4).f 1 (bq*2+1) rfl))
       all_goals
        have H9:=hdz (show Kp w [(P,txA (PS (j+1)),24),(R,frA (RS (j+1)),26)] ((v4.setCell ⟨R,bq*2,none⟩ (.string ⟨fn.n.toArray⟩)).setCell ⟨R,bq*2+1,none⟩ (.string ⟨fn.d.toArray⟩)) by
         have h:=((H2.out.here hz4).set 1 (bq*2) rfl (.string ⟨fn.n.toArray⟩)).set 1 (bq*2+1) rfl (.string ⟨fn.d.toArray⟩)
         simp only[List.set_cons_succ,List.set_cons_zero] at h
         rw[HNR.out] at h
         exact h)
        go_wp2_with fail
        go_roundw
        case rel=>exact⟨j+1,d-1,by rw[show((d-1:Nat):Int)=(d:Int)-1 by omega],by omega,H9⟩
        case measure=>simp[intOf];omega
    ·obtain rfl:d=0:=by omega
     obtain rfl:j=M:=by omega
     have hb:=H.out.at_ 0 rfl
     have hge:=H.out.old 0 rfl
     have HB:=hdz (show BlkB wr P (partA (posL T ns) k k) 24 by rw[←HPM.out,←ZfJ _ _ (HPL2.out j)];exact hb)
     have HGE:=hdz hge
     clear hb hge H3C H3A H3O H3S HBL HNX HPL2 HRL2 HPM
     go_wp2_with fail
     refine(HNG.out _).mono ?_
     rintro e v8 ⟨rfl,rfl⟩
     go_wp2_with fail
     first|go_ret2|skip
     rw[HPO.out]
     exact⟨P,rfl,HB.out,HGE.out,H.out.bl⟩
end
section
open Go.RowKit Go.Shelf
theorem Zha{K:Nat}(hK:K≤2000)(hK1:1≤K)(t p a:Int)(ht:t.natAbs<10^K)(hpp:p.natAbs<10^K)(ha:a.natAbs<10^K)(h0:0≤p)(h1:p≤a)(h2:a≠0):
 Gives 89 #[S (txtL t),S (txtL p),S (txtL a)] (.tuple #[S (txtL (shrL t p a)),S (txtL (t-shrL t p a)),.int .i64 0]):=by
 intro w hp
 have H:=hdz (Kp.start hp)
 have lt:=Zab ht;have lp:=Zab hpp;have la:=Zab ha
 have HCT:=hdz (fun W=>ZaK (txtL t) W (by omega));have HCP:=hdz (fun W=>ZaK (txtL p) W (by omega));have HCA:=hdz (fun W=>ZaK (txtL a) W (by omega))
 rw[if_pos (Zcb _)] at HCT HCP HCA
 have HNA:=hdz (fun W=>Za5 (txtL a) W (by omega));have HNP:=hdz (fun W=>Za5 (txtL p) W (by omega))
 rw[Zaa,decide_eq_false (by omega)] at HNA HNP
 have HCM:=hdz (fun W=>Zau (txtL p) (txtL a) W (by omega) (by omega))
 rw[Zaa,Zaa] at HCM
 have hz:=Zmd (k:=p-a) (by omega)
 have HMU:=hdz (fun W=>ZaY (txtL t) (txtL p) W (by omega) (by omega))
 rw[Zaa,Zaa] at HMU
 have lm:=Zab (Zak ht hpp)
 have HNW:=hdz (fun W=>ZfG ⟨txtL (t*p),txtL a⟩ W ⟨by show(txtL _).length≤_;omega,by show(txtL _).length≤_;omega⟩)
 rw[show newR ⟨txtL (t*p),txtL a⟩=(frOf (Rat.divInt (t*p) a),0) by
  unfold newR
  have hd:val (txtL a)≠0:=by rw[Zaa];exact h2
  rw[if_neg hd]
  unfold Fr.rat Fr.dv
  rw[if_neg hd]
  simp only[Zaa]] at HNW
 have hrb:RB (K+K) (Rat.divInt (t*p) a):=RB.divInt (Zak ht hpp) (Nat.lt_of_lt_of_le ha (Nat.pow_le_pow_right (by omega) (by omega))) h2
 have HRD:=hdz (Zex (frOf (Rat.divInt (t*p) a)) ((Zam hrb).more (by omega)))
 rw[Zac,show rnd (Rat.divInt (t*p) a)=shrL t p a from rfl] at HRD
 have lr:=Zab (show(shrL t p a).natAbs<_ from Zl4 hrb (by omega))
 have HSB:=hdz (fun W=>Zdg (txtL t) (txtL (shrL t p a)) W (by omega) (by omega))
 rw[Zaa,Zaa] at HSB
 have hne:(txtL a==[])=false:=by
  rw[Bool.eq_false_iff]
  intro e
  exact h2 (ZaQ.1 (eq_of_beq e))
 have hem:(txtL a).isEmpty=false:=by
  cases h:txtL a with
  |nil=>rw[h] at hne;cases hne
  |cons _ _=>rfl
 clear hp ht hpp ha h0 h1 h2 lt lp la lm hrb lr
 generalize sgnI (p-a)=z at*
 generalize frOf (Rat.divInt (t*p) a)=fq at*
 generalize txtL (t*p)=tm at*
 generalize txtL (t-shrL t p a)=ts at*
 generalize txtL (shrL t p a)=tr at*
 generalize txtL a=ta at*
 generalize txtL t=tt at*
 generalize txtL p=tp at*
 unfold QuoPost FrV at HNW
 unfold StrPost at HMU HSB
 unfold FrV at HRD
 unfold S at*
 go_enter Tryz.func89,Tryz.ntmps89
 go_wp2_with fail
 refine(HCT.out _).mono ?_
 rintro e w1 ⟨rfl,rfl⟩
 go_wp2_with fail
 refine(HCP.out _).mono ?_
 rintro e w1 ⟨rfl,rfl⟩
 go_wp2_with fail
 refine(HCA.out _).mono ?_
 rintro e w1 ⟨rfl,rfl⟩
 go_wp2_with fail
 refine(HNA.out _).mono ?_
 rintro e w1 ⟨rfl,rfl⟩
 go_wp2_with fail
 refine(HNP.out _).mono ?_
 rintro e w1 ⟨rfl,rfl⟩
 go_wp2_with fail
 refine(HCM.out _).mono ?_
 rintro e w1 ⟨rfl,rfl⟩
 go_wp2_with fail
 refine(HMU.out _).mono ?_
 rintro e w1 ⟨rfl,hb⟩
 replace H:=hdz (H.out.here hb)
 clear hb
 go_wp2_with fail
 refine(HNW.out _).mono ?_
 rintro e w2 ⟨rfl,hb⟩
 replace H:=hdz ((H.out.here hb).new w2.heap.size rfl #[.string ⟨fq.n.toArray⟩,.string ⟨fq.d.toArray⟩] 26)
 clear hb
 go_upto_region 8 with (fail)
 generalize w2.alloc _=W2 at*
 have c0:=H.out.c 0 0 rfl rfl;have c1:=H.out.c 0 1 rfl rfl
 go_wp2_with fail
 refine(HRD.out _ H.out.pw).mono ?_
 rintro e w3 ⟨rfl,hb⟩
 replace H:=hdz (H.out.here hb)
 clear hb c0 c1
 go_wp2_with fail
 refine(HSB.out _).mono ?_
 rintro e w4 ⟨rfl,hb⟩
 go_wp2_with fail
 first|go_ret3|skip
 exact⟨rfl,(H.out.here hb).bl⟩
theorem Zkh{t:Int}{ws:List (List UInt8)}(h0:ws≠[])(hn:ws.length≤1000)(hc:∀x∈ws,canB x=true)(hw:∀x∈ws,0≤val x)(hS:0<sumV ws):splitC (txtL t) ws=0:=by
 unfold splitC
 rw[if_neg h0,if_neg (by omega),if_neg,if_neg (by omega)]
 rw[Zcb]
 intro h
 rcases h with h|h
 ·cases h
 ·obtain⟨x,hx,hb⟩:=List.any_eq_true.1 h
  rw[hc x hx,decide_eq_false (by have:=hw x hx;omega)] at hb
  cases hb
theorem Zb2(t:Int)(A:Option Addr)(n c:Nat)(ws:List (List UInt8))(w:World)(hp:Env w)(hs:Strs w w.heap.size A n ws)(ht:(txtL t).length≤1000)(hl:∀x∈ws,x.length≤1000)(hn0:0<n)(hn:n≤1000)(h0:0≤t)(hc:∀x∈ws,canB x=true)(hw0:∀x∈ws,0≤val x)(hS:t≠0→0<sumV ws):
 Calls Tryz.prog 91 #[S (txtL t),.slice A n c] w (RowPost (divS t (ws.map val)) n w):=by
 have HPO:=hdz (show ∀e w',RowPost (divS t (ws.map val)) n w e w'=∃P,e=.returned (.slice (some ⟨P,0,none⟩) n n)∧BlkB w' P (partA (divS t (ws.map val)) n n) 24∧w.heap.size≤P∧Below w.heap.size w w' from fun _ _=>rfl)
 generalize RowPost (divS t (ws.map val)) n w=post at*
 have hlen:ws.length=n:=hs.1.symm
 have H:=hdz (Below.refl w.heap.size w)
 by_cases h:t=0
 ·subst h
  have hz:divS 0 (ws.map val)=List.replicate n 0:=by
   have e:(ws.map val).map (fun _=>(0:Int))=List.replicate n 0:=by
    rw[List.map_map,←hlen]
    exact List.map_const' ..
   unfold divS
   split
   ·exact e
   ·rename_i hne
    rw[Zkg (by intro x hx;obtain⟨y,hy,rfl⟩:=List.mem_map.1 hx;exact hw0 y hy) (by
     have:=Zas (l:=ws.map val) (by intro x hx;obtain⟨y,hy,rfl⟩:=List.mem_map.1 hx;exact hw0 y hy)
     omega)]
    exact e
  have HZ:=hdz (show txA (List.replicate n 0)=partA (divS 0 (ws.map val)) n n by rw[hz];exact ZfJ _ _ (by simp))
  have hmk:=run_make_row' (P:=Tryz.prog) 58 24 (.string ⟨#[]⟩) 16 Tryz.underlying58 ZkY rfl .i64 .i64 n (by omega) (by omega)
  rw[ZhT,HZ.out] at hmk
  rw[show txtL 0=[] from rfl]
  clear hz HZ hs hl hw0 hc hS ht h0
  generalize partA (divS 0 (ws.map val)) n n=pa at*
  unfold S
  go_enter Tryz.func91,Tryz.ntmps91
  go_wp2_with fail
  first|go_ret|skip
  rw[HPO.out]
  exact⟨_,rfl,heap_alloc_new w _,Nat.le_refl _,(Below.refl _ _).alloc (Nat.le_refl _) _⟩
 ·have hsp:=hS h
  have HSP:=hdz (fun W (hb:Below w.heap.size w W)=>ZiM (txtL t) A n c ws W (hp.here hb) (hs.here hb) ht hl hn0 hn (by rw[Zaa]) (by rw[Zaa];exact h0) hw0 hsp (Zkh (by intro e;rw[e] at hlen;simp at hlen;omega) (by omega) hc hw0 hsp))
  rw[Zaa] at HSP
  have HDV:=hdz (show divS t (ws.map val)=posL t (ws.map val) by unfold divS;rw[if_neg];have:(ws.map val).sum=sumV ws:=rfl;omega)
  rw[HDV.out] at HPO
  have hne:(txtL t==[])=false:=by
   rw[Bool.eq_false_iff]
   intro e
   exact h (ZaQ.1 (eq_of_beq e))
  have hem:(txtL t).isEmpty=false:=by
   cases h:txtL t with
   |nil=>rw[h] at hne;cases hne
   |cons _ _=>rfl
  clear hs hl hw0 hc hS ht h0 h hsp HDV
  unfold RowPost2 at HSP
  generalize partA (posL t (ws.map val)) n n=pa at*
  generalize txtL t=tt at*
  unfold S at*
  go_enter Tryz.func91,Tryz.ntmps91
  go_wp2_with fail
  refine(HSP.out _ H.out).mono ?_
  rintro e w1 ⟨P,rfl,hB,hP,hb⟩
  have HB:=hdz (And.intro hB (And.intro hP hb))
  clear hB hP hb
  go_wp2_with fail
  first|go_ret|skip
  rw[HPO.out]
  exact⟨P,rfl,HB.out.1,HB.out.2.1,HB.out.2.2⟩
theorem ZeC(f:Fr)(hf:f.Sz 5000):Gives 87 #[FrV f] (S (txtL (rnd f.rat))):=by
 intro w hp
 have H:=hdz ((Kp.start hp).new w.heap.size rfl #[.string ⟨f.n.toArray⟩,.string ⟨f.d.toArray⟩] 26)
 have HR:=hdz (Zex f hf)
 have x0:(w.alloc (.cells #[.string ⟨f.n.toArray⟩,.string ⟨f.d.toArray⟩] 26)).cell? ⟨w.heap.size,0,none⟩=some (.string ⟨f.n.toArray⟩):=H.out.c 0 0 rfl rfl
 have x1:(w.alloc (.cells #[.string ⟨f.n.toArray⟩,.string ⟨f.d.toArray⟩] 26)).cell? ⟨w.heap.size,1,none⟩=some (.string ⟨f.d.toArray⟩):=H.out.c 0 1 rfl rfl
 generalize txtL (rnd f.rat)=res at*
 clear hf hp
 unfold FrV at*
 unfold S at*
 go_enter Tryz.func87,Tryz.ntmps87
 go_wp2_with fail
 generalize w.alloc _=W at*
 refine(HR.out _ H.out.pw).mono ?_
 rintro e w2 ⟨rfl,hb⟩
 go_wp2_with fail
 first|go_ret|skip
 exact⟨rfl,(H.out.here hb).bl⟩
end
section
open Go.RowKit Go.Shelf
theorem Zci(s:List UInt8)(w:World)(hl:s.length≤maxLen):Calls Tryz.prog 47 #[S s] w fun e w'=>e=.returned (.bool (nameB s))∧w=w':=by
 have HNB:=hdz (show nameB s=(decide (s≠[])&&decide (s.length≤16)&&s.all nameC) from rfl)
 have hsz:=Zag s
 have hm:s.length≤9223372036854775807:=hl
 clear hl
 unfold S
 go_enter Tryz.func47,Tryz.ntmps47
 go_wp2
 go_loop [3,4] (fun i _=>∃k:Nat,k≤s.length∧i=.int .i64 k∧Hid ((s.take k).all nameC=true)) (fun i _=>s.length-(intOf i).toNat)
 case atStart=>exact⟨0,Nat.zero_le _,rfl,by show _=_;simp⟩
 case round=>
  obtain⟨k,hk,rfl,HA⟩:=hrel
  by_cases hlt:k<s.length
  ·obtain⟨b,hb⟩:∃b,s[k]?=some b:=⟨_,List.getElem?_eq_getElem hlt⟩
   have hks:k<(⟨s.toArray⟩:ByteArray).size:=by rw[Zag];exact hlt
   have hbk:(⟨s.toArray⟩:ByteArray)[k]=b:=Zeu hb hks
   have HB:=hdz hb;clear hb
   have HIF:=hdz (Zgg b)
   clear HNB
   by_cases h95:(b.toNat:Int)=95
   ·have hx:((b.toNat:Int) !=95)=false:=by simp[h95]
    go_wp2
    all_goals
     go_round
     case rel=>exact⟨k+1,by omega,by go_num,Zbd HB.out HA.out (by rw[HIF.out];omega)⟩
     case measure=>simp[intOf];omega
   ·have hx:((b.toNat:Int) !=95)=true:=by simp[h95]
    go_wp2
    all_goals first
     |(go_round
       case rel=>exact⟨k+1,by omega,by go_num,Zbd HB.out HA.out (by rw[HIF.out];omega)⟩
       case measure=>simp[intOf];omega)
     |(go_ret
       exact⟨Zaf (Zgh HB.out (by rw[HIF.out];omega)).symm,rfl⟩)
  ·have HAL:=hdz (show s.all nameC=true by have:=HA.out;rwa [List.take_of_length_le (by omega)] at this)
   rw[HAL.out] at HNB
   by_cases h1:1≤s.length
   ·have HNE:=hdz (show s≠[] by intro e;rw[e] at h1;simp at h1)
    rw[decide_eq_true HNE.out] at HNB
    by_cases h2:s.length≤16
    ·rw[decide_eq_true h2] at HNB
     go_wp2
     go_ret
     exact⟨Zaf (by rw[HNB.out,decide_eq_true (show((s.length:Nat):Int)≤16 by omega)];rfl),rfl⟩
    ·rw[decide_eq_false h2] at HNB
     go_wp2
     go_ret
     exact⟨Zaf (by rw[HNB.out,decide_eq_false (show ¬((s.length:Nat):Int)≤16 by omega)];rfl),rfl⟩
   ·have HNE:=hdz (show ¬s≠[] by
     rw[Classical.not_not]
     exact List.eq_nil_of_length_eq_zero (by omega))
    rw[decide_eq_false HNE.out] at HNB
    go_wp2
    go_ret
    exact⟨Zaf (by rw[HNB.out];rfl),rfl⟩
end
end Go.Proofs.YtpnncoinlopndaaGreatDoor
