/- AL2, AL3, Mq1, Mq2, Mq3, Mq4, Rp0. -/
import Derived.Test.YtpnncoinlopndaaGreatDoorQGMp23
import Derived.Test.YtpnncoinlopndaaGreatDoorQGMp6
import Derived.BigRegion
import Derived.Deep.DrawnRows
import Derived.Test.YtpnncoinlopndaaGreatDoorShs
set_option maxRecDepth 100000
set_option maxHeartbeats 10000000
namespace Go.Proofs.YtpnncoinlopndaaGreatDoor
open Go.Lib renaming hid→jq
open Go.RowKit Go.Shelf
section
attribute [local go_sem ↓] Go.wp_at_zero Go.wp_at_succ
theorem Kp.perm{w W:World}{bs bs':List (Nat×Array Value×TypeId)}(h:Kp w bs W)(hp:bs.Perm bs'):Kp w bs' W:=
 ⟨h.pow,h.bl,fun b hb=>h.own b (hp.mem_iff.2 hb),((hp.map (·.1)).pairwise_iff (fun h=>fun e=>h e.symm)).1 h.ord,fun b hb=>h.blk b (hp.mem_iff.2 hb)⟩
theorem Kp.three{w w1:World}(h:Kp w [] w1)(c1 c2 c3:Array Value)(T1 T2 T3:TypeId):
 Kp w [(w1.1.size+1+1,c3,T3),(w1.1.size+1,c2,T2),(w1.1.size,c1,T1)] (((w1.alloc (.cells c1 T1)).alloc (.cells c2 T2)).alloc (.cells c3 T3)).drew:=
 (((h.new _ rfl c1 T1).new _ (by simp) c2 T2).new _ (by simp) c3 T3).drew
section
variable {α:Type} (x y z:α)
theorem Zni:[x,y,z].Perm [x,z,y]:=.cons x (.swap z y [])
theorem Znj:[x,y,z].Perm [y,x,z]:=.swap y x [z]
theorem Znk:[x,y,z].Perm [y,z,x]:=(List.Perm.swap y x [z]).trans (.cons y (.swap z x []))
theorem Znl:[x,y,z].Perm [z,x,y]:=(List.Perm.cons x (.swap z y [])).trans (.swap z x [y])
theorem Znm:[x,y,z].Perm [z,y,x]:=((List.Perm.cons x (.swap z y [])).trans (.swap z x [y])).trans (.cons z (.swap y x []))
end
def Qo(l:List Int)(n k:Nat):Array Value:=((List.range n).map fun j=>if j<k then Value.string ⟨(Qa (l.getD j 0)).toArray⟩ else .string ⟨#[]⟩).toArray
theorem QQ(l:List Int)(n k j:Nat)(hj:j<n):(Qo l n k)[j]?=some (if j<k then Value.string ⟨(Qa (l.getD j 0)).toArray⟩ else .string ⟨#[]⟩):=by
 simp[Qo,hj]
theorem Zer(l:List Int)(n k:Nat)(hk:k<n):(Qo l n k)[k]?=some (.string ⟨#[]⟩):=by
 rw[QQ l n k k hk,if_neg (Nat.lt_irrefl k)]
theorem ZiT(l:List Int)(n k:Nat)(hk:k<n):(Qo l n (k+1))[k]?=some (.string ⟨(Qa (l.getD k 0)).toArray⟩):=by
 rw[QQ l n (k+1) k hk,if_pos (by omega)]
theorem Zes(l:List Int)(n k:Nat)(hk:k<n):(Qo l n k).setIfInBounds k (.string ⟨(Qa (l.getD k 0)).toArray⟩)=Qo l n (k+1):=by
 apply Array.ext_getElem?
 intro i;rw[Array.getElem?_setIfInBounds]
 by_cases hi:i<n
 ·rw[QQ l n (k+1) i hi]
  by_cases e:k=i
  ·subst e;rw[if_pos rfl,if_pos (by simpa[Qo] using hk),if_pos (by omega)]
  ·rw[if_neg e,QQ l n k i hi]
   congr 1
   by_cases h2:i<k
   ·rw[if_pos h2,if_pos (by omega)]
   ·rw[if_neg h2,if_neg (by omega)]
 ·rw[if_neg (by omega),Array.getElem?_eq_none (by simp[Qo];omega),Array.getElem?_eq_none (by simp[Qo];omega)]
theorem Yo(l:List Int)(n:Nat):madeCells #[.string ⟨#[]⟩] n=Qo l n 0:=by
 apply Array.ext_getElem?
 intro i
 by_cases hi:i<n
 ·rw[QQ l n 0 i hi];simp[madeCells,hi,Nat.mod_one]
 ·rw[Array.getElem?_eq_none (by simp[madeCells];omega),Array.getElem?_eq_none (by simp[Qo];omega)]
def Jc(n k:Nat):Array Value:=((List.range n).map fun j=>if j<k then Value.int .i64 (j:Nat) else .int .i64 0).toArray
theorem Zbv(n k j:Nat)(hj:j<n):(Jc n k)[j]?=some (if j<k then Value.int .i64 (j:Nat) else .int .i64 0):=by
 simp[Jc,hj]
theorem Zj9(n k:Nat)(hk:k<n):(Jc n k)[k]?=some (.int .i64 0):=by
 rw[Zbv n k k hk,if_neg (Nat.lt_irrefl k)]
theorem Zka(n k:Nat)(hk:k<n):(Jc n k).setIfInBounds k (.int .i64 (k:Nat))=Jc n (k+1):=by
 apply Array.ext_getElem?
 intro i;rw[Array.getElem?_setIfInBounds]
 by_cases hi:i<n
 ·rw[Zbv n (k+1) i hi]
  by_cases e:k=i
  ·subst e;rw[if_pos rfl,if_pos (by simpa[Jc] using hk),if_pos (by omega)]
  ·rw[if_neg e,Zbv n k i hi]
   congr 1
   by_cases h2:i<k
   ·rw[if_pos h2,if_pos (by omega)]
   ·rw[if_neg h2,if_neg (by omega)]
 ·rw[if_neg (by omega),Array.getElem?_eq_none (by simp[Jc];omega),Array.getElem?_eq_none (by simp[Jc];omega)]
theorem ZiU(n:Nat):madeCells #[.int .i64 0] n=Jc n 0:=by
 apply Array.ext_getElem?
 intro i
 by_cases hi:i<n
 ·rw[Zbv n 0 i hi];simp[madeCells,hi,Nat.mod_one]
 ·rw[Array.getElem?_eq_none (by simp[madeCells];omega),Array.getElem?_eq_none (by simp[Jc];omega)]
theorem Zkb(n:Nat):Jc n n=Zaj (List.range n):=by
 unfold Jc Zaj
 congr 1
 refine List.map_congr_left fun j hj=> ?_
 rw[if_pos (List.mem_range.1 hj)]
theorem ZlJ(t:Int){ws:List (List UInt8)}{k:Nat}{x:List UInt8}(h:ws[k]?=some x):(QA t (ws.map val)).getD k 0=(t*val x).fdiv (Qw ws)/\(QI t (ws.map val)).getD k 0=(t*val x).fmod (Qw ws):=by
 simp[QA,QI,Qw,List.getD,h]
theorem Zkc{t:Int}{ns:List Int}(h0:0<=t)(hn:∀x∈ns,0<=x)(hS:0<ns.sum)(k:Nat):0<=((QA t ns).take k).sum/\((QA t ns).take k).sum<=t:=by
 have hb:∀b∈QA t ns,0<=b:=by
  intro b hb;obtain⟨x,hx,rfl⟩:=List.mem_map.1 hb
  exact Int.fdiv_nonneg (Int.mul_nonneg h0 (hn x hx)) (by omega)
 have h1:=QP (l:=(QA t ns).take k) (fun b hb'=>hb b (List.mem_of_mem_take hb'));have h2:=QP (l:=(QA t ns).drop k) (fun b hb'=>hb b (List.mem_of_mem_drop hb'));have h3:((QA t ns).take k).sum+((QA t ns).drop k).sum=(QA t ns).sum:=by rw[<-XW,List.take_append_drop]
 have h4:=YZ t hS;unfold Xs at h4;omega
theorem Zd8{l:List Int}{k:Nat}(hk:k<l.length):(l.take (k+1)).sum=(l.take k).sum+l.getD k 0:=by
 rw[List.take_succ_eq_append_getElem hk,XW];simp[List.getD,hk]
def upA(l:List Int)(ups:List Nat)(n:Nat):Array Value:=((List.range n).map fun j=>Value.string ⟨(Qa (if j∈ups then l.getD j 0+1 else l.getD j 0)).toArray⟩).toArray
theorem Ze1(l:List Int)(ups:List Nat)(n j:Nat)(hj:j<n):(upA l ups n)[j]?=some (Value.string ⟨(Qa (if j∈ups then l.getD j 0+1 else l.getD j 0)).toArray⟩):=by
 simp[upA,hj]
theorem ZlK(l:List Int)(n:Nat):Qo l n n=upA l [] n:=by
 unfold Qo upA
 congr 1
 refine List.map_congr_left fun j hj=> ?_
 rw[if_pos (List.mem_range.1 hj),if_neg (by simp)]
theorem ZlL(l:List Int)(ups:List Nat)(n i:Nat)(hi:i<n)(_hu:i ∉ ups):(upA l ups n).setIfInBounds i (.string ⟨(Qa (l.getD i 0+1)).toArray⟩)=upA l (ups++[i]) n:=by
 apply Array.ext_getElem?
 intro j;rw[Array.getElem?_setIfInBounds]
 by_cases hj:j<n
 ·rw[Ze1 l (ups++[i]) n j hj]
  by_cases e:i=j
  ·subst e;rw[if_pos rfl,if_pos (by simpa[upA] using hi),if_pos (by simp)]
  ·rw[if_neg e,Ze1 l ups n j hj]
   congr 3
   have:j∈ups++[i]↔j∈ups:=by simp;intro h;exact absurd h.symm e
   simp only[this]
 ·rw[if_neg (by omega),Array.getElem?_eq_none (by simp[upA];omega),Array.getElem?_eq_none (by simp[upA];omega)]
theorem ZlM(t:Int)(ns:List Int)(n:Nat)(hn:ns.length=n):upA (QA t ns) (upL t ns) n=Qo (Xz t ns) n n:=by
 unfold Qo upA
 congr 1
 refine List.map_congr_left fun j hj=> ?_
 have hj':=List.mem_range.1 hj;rw[if_pos hj'];have h1:=ZfS t ns j (by omega)
 have h2:(Xz t ns).getD j 0=if j∈upL t ns then(QA t ns).getD j 0+1 else(QA t ns).getD j 0:=by
  rw[List.getD,h1];simp only[Option.getD_some,QA,List.getD,List.getElem?_map,List.getElem?_eq_getElem (show j<ns.length by omega),Option.map_some]
 rw[h2]
theorem Zid:(Tryz.prog.info? 24).map (fun i=>(i.zero,i.size,i.bytes))=some (some (.string ⟨#[]⟩),1,16):=by kernel_rfl
theorem Znn:(Tryz.prog.info? 3).map (fun i=>(i.zero,i.size,i.bytes))=some (some (.int .i64 0),1,8):=by kernel_rfl
theorem Ze2(t:List UInt8)(A:Option Addr)(n c:Nat)(ws:List (List UInt8))(w:World)(hp:Env w)(hs:XA w w.1.size A n ws)(ht:t.length<=1000)(hl:∀x∈ws,x.length<=1000)(hn0:0<n)(hn:n<=1000)(htc:t=Qa (val t))(h0:0<=val t)(hw0:∀x∈ws,0<=val x)(hS:0<Qw ws):
 Calls Tryz.prog 205 #[S t,.slice A n c] w fun e w'=>∃P,e=.returned (.slice (some ⟨P,0,none⟩) n n)/\BlkB w' P (Qo (Xz (val t) (ws.map val)) n n) 24/\w.1.size<=P/\Below w.1.size w w':=by
 have HS:=jq hs;have HL:=jq hl;have H:=jq (Kp.start hp);have HWH:=jq (Zda A n c ws w hp hs (fun x hx=>by have:=hl x hx;omega) (by omega));have hmk:=run_make_row' (P:=Tryz.prog) 58 24 (.string ⟨#[]⟩) 16 Tryz.underlying58 Zid rfl .i64 .i64 n (by omega) (by omega);have hmi:=run_make_row' (P:=Tryz.prog) 124 3 (.int .i64 0) 8 Tryz.underlying124 Znn rfl .i64 .i64 n (by omega) (by omega);rw[Yo []] at hmk;rw[ZiU] at hmi;clear hs hl hp;have HTC:=jq htc;clear htc;unfold S at*
 go_enter Tryz.func205,Tryz.ntmps205
 go_wp2_with fail
 refine HWH.out.mono ?_;rintro e w1 ⟨rfl,hb⟩;replace H:=jq (H.out.here hb);clear hb HWH;unfold S;go_upto_region 2 with (fail)
 go_cut [6,7] (fun s u wc=>∃P R X:Nat,s=.slice (some ⟨P,0,none⟩) n n/\u=.pointer (some ⟨X,0,none⟩)/\Hid (Kp w [(P,Qo [] n 0,24),(R,Qo [] n 0,24),(X,#[.slice (some ⟨R,0,none⟩) n n],58)] wc))
 case first=>
  go_region
  all_goals
   go_wp2_with fail
   go_meet
   have H3:=H.out.three
   first
    |exact⟨_,_,_,rfl,rfl,(H3 _ _ _ _ _ _).perm (Zni _ _ _)⟩
    |exact⟨_,_,_,rfl,rfl,(H3 _ _ _ _ _ _).perm (Znj _ _ _)⟩
    |exact⟨_,_,_,rfl,rfl,(H3 _ _ _ _ _ _).perm (Znk _ _ _)⟩
    |exact⟨_,_,_,rfl,rfl,(H3 _ _ _ _ _ _).perm (Znl _ _ _)⟩
    |exact⟨_,_,_,rfl,rfl,(H3 _ _ _ _ _ _).perm (Znm _ _ _)⟩
    |exact⟨_,_,_,rfl,rfl,H3 _ _ _ _ _ _⟩
 case rest=>
 clear H hmk;obtain⟨P,R,X,rfl,rfl,HK⟩:=hcut
 obtain⟨O,hO⟩:∃O,O=wc.1.size:=⟨_,rfl⟩
 have HK2:=jq (HK.out.new O hO (Jc n 0) 3);clear HK;go_wp2_with fail
 rw[<-hO];generalize wc.alloc (.cells (Jc n 0) 3)=W0 at*;clear hO hmi;have hlen:(ws.map val).length=n:=by rw[List.length_map];exact HS.out.1.symm
 have hsn:0<(ws.map val).sum:=hS;have hn0s:∀x∈ws.map val,0<=x:=by intro x hx;obtain⟨y,hy,rfl⟩:=List.mem_map.1 hx;exact hw0 y hy
 have HPS:=jq (Zkc (t:=val t) h0 hn0s hsn);have HBA:=jq (fun k x h=>ZlJ (val t) (ws:=ws) (k:=k) (x:=x) h);have HUP:=jq (ZlM (val t) (ws.map val) n hlen);have HRB:=jq (XX (val t) hsn);have hbl:(QA (val t) (ws.map val)).length=n:=by simpa[QA] using hlen
 have hrl:(QI (val t) (ws.map val)).length=n:=by simpa[QI] using hlen
 have HMU:=jq (fun k (hk:k<n)=>Zd8 (l:=QA (val t) (ws.map val)) (k:=k) (by omega));have HML:=jq (show Xs (val t) (ws.map val)=val t-((QA (val t) (ws.map val)).take n).sum by unfold Xs;rw[List.take_of_length_le (by omega)])
 have HMC:=jq (show 0<=Xs (val t) (ws.map val)/\Xs (val t) (ws.map val)<=n by
  refine⟨YZ _ hsn,Int.le_trans (YO _ hsn) ?_⟩;have:=List.countP_le_length (p:=fun r:Int=>decide (0<r)) (l:=QI (val t) (ws.map val))
  omega)
 have HUL:=jq (show upL (val t) (ws.map val)=(QV (QI (val t) (ws.map val))).take (Xs (val t) (ws.map val)).toNat from rfl);have e1:=(Yo [] n).symm.trans (Yo (QA (val t) (ws.map val)) n);have e2:=(Yo [] n).symm.trans (Yo (QI (val t) (ws.map val)) n);generalize Xs (val t) (ws.map val)=ms at*;generalize hps:Xz (val t) (ws.map val)=ps at*;have HPQ:=jq hps;clear hps;generalize upL (val t) (ws.map val)=ups at*;generalize QA (val t) (ws.map val)=bs at*;generalize QI (val t) (ws.map val)=rs at*;obtain⟨K,hK⟩:∃K:Nat,K=1000:=⟨_,rfl⟩
 rw[<-hK] at ht;have htv:=Qz ht;have hsv:=ZfU (ws:=ws) (L:=K) (fun x hx=>by have:=HL.out x hx;omega);have hsl:=ZfV (ws:=ws) (L:=K) (fun x hx=>by have:=HL.out x hx;omega) (by have:=HS.out.1;omega);have HLP:=jq (fun k x (h:ws[k]?=some x)=>Qd (n:=val t*val x) (L:=K+K) (QB htv (Qz (by have:=HL.out x (List.mem_of_getElem? h);omega))));have HLM:=jq (fun k=>Qd (n:=val t-(bs.take k).sum) (L:=K) (by have:=HPS.out k;omega));have HK3:=jq (show Kp w [(O,Jc n 0,3),(P,Qo bs n 0,24),(R,Qo rs n 0,24),(X,#[Value.slice (some ⟨R,0,none⟩) n n],58)] W0 by rw[<-e1,<-e2];exact HK2.out)
 have HLR:=jq (show ∀j,(Qa (rs.getD j 0)).length<=100000 from fun j=>by
  have hb:0<=rs.getD j 0/\rs.getD j 0<=Qw ws:=by
   rw[List.getD_eq_getElem?_getD]
   cases hj:rs[j]? with
   |none=>exact⟨Int.le_refl _,Int.le_of_lt hS⟩
   |some r=>have:=HRB.out r (List.mem_of_getElem? hj);exact⟨this.1,Int.le_of_lt this.2⟩
  have h10:1000*10^K<10^(K+4):=by rw[Nat.pow_add];have:1<=10^K:=Nat.pow_pos (by omega);omega
  have hn2:ws.length*10^K<=1000*10^K:=Nat.mul_le_mul_right _ (by have:=HS.out.1;omega);have:=Qd (n:=rs.getD j 0) (L:=K+4) (by omega)
  omega)
 have HLB:=jq (show ∀q,q<n->(Qa (bs.getD q 0)).length<=100000 from fun q hq=>by
  have h1:=HPS.out q;have h2:=HPS.out (q+1);rw[HMU.out q hq] at h2;have:=Qd (n:=bs.getD q 0) (L:=K) (by omega)
  omega)
 have hK2:=hK;clear htv hsv e1 e2 HK2 h0 hw0 hsn hn0s
 go_loopw [9,10,11,30] (fun m _ _ i wr=>∃k:Nat,k<=n/\m=.string ⟨(Qa (val t-(bs.take k).sum)).toArray⟩/\i=.int .i64 k/\Hid (Kp w [(O,Jc n k,3),(P,Qo bs n k,24),(R,Qo rs n k,24),(X,#[Value.slice (some ⟨R,0,none⟩) n n],58)] wr)) (fun _ _ _ i _=>n-(intOf i).toNat)
 case atStart=>exact⟨0,Nat.zero_le _,(by rw[List.take_zero,List.sum_nil,Int.sub_zero,<-HTC.out]),rfl,HK3⟩
 case round=>
  clear HK3;obtain⟨k,hk,rfl,rfl,H⟩:=hrel
  by_cases hlt:k<n
  ·obtain⟨b,off,x,rfl,hb,hx,d0⟩:=(HS.out.below H.out.bl).st hlt
   have HX:=jq hx;clear hx;obtain⟨hb1,hb2⟩:=HBA.out k x HX.out
   have HMUL:=jq (fun W hp=>JH t x W hp (by omega) (by have:=HL.out x (List.mem_of_getElem? HX.out);omega));have HDV:=jq (fun W hp=>(ZaD (Qa (val t*val x)) (Qa (Qw ws)) W hp (by have:=HLP.out k x HX.out;omega) (by omega)).mono fun e w' h=>Vl (by rw[Qc];omega) h);rw[Qc,Qc,<-hb1,<-hb2] at HDV
   have HSU:=jq (fun W hp=>Zbj (Qa (val t-(bs.take k).sum)) (Qa (bs.getD k 0)) W hp (by have:=HLM.out k;omega) (by
    have h1:=HPS.out k;have h2:=HPS.out (k+1);rw[HMU.out k hlt] at h2;have:=Qd (n:=bs.getD k 0) (L:=K) (by have:=Qz ht;omega)
    omega))
   rw[Qc,Qc,show val t-(bs.take k).sum-bs.getD k 0=val t-(bs.take (k+1)).sum by rw[HMU.out k hlt];omega] at HSU;clear hb1 hb2;generalize Qa (val t-(bs.take k).sum)=tm at*;generalize htm2:Qa (val t-(bs.take (k+1)).sum)=tm2 at*;have HTM2:=jq htm2;clear htm2;generalize Qa (val t*val x)=tp at*;have HPA:=jq (Zes bs n k hlt);have HRA:=jq (Zes rs n k hlt);have HIA:=jq (Zka n k hlt);have HPO2:=jq (ZiT bs n k hlt);have HPN:=jq (Zer bs n k hlt);have HRN:=jq (Zer rs n k hlt);have HIN:=jq (Zj9 n k hlt);generalize Qa (bs.getD k 0)=tb at*;generalize Qa (rs.getD k 0)=tr at*;generalize Qa (Qw ws)=tsum at*;unfold S at HMUL HDV HSU;have nPR:=H.out.ne 1 2 rfl rfl (by decide);have nRP:=H.out.ne 2 1 rfl rfl (by decide);have i1:(0:Int)<=(k:Int):=by omega
   have i2:(k:Int)<(n:Int):=by omega
   go_upto_region 8 with (fail)
   go_cut [] (fun w9=>Hid (Kp w [(O,Jc n k,3),(P,Qo bs n (k+1),24),(R,Qo rs n (k+1),24),(X,#[Value.slice (some ⟨R,0,none⟩) n n],58)] w9))
   case first=>
    have x0:wr.cell? ⟨X,0,none⟩=some (.slice (some ⟨R,0,none⟩) n n):=H.out.c 3 0 rfl rfl;clear d0 HS HL HTC HPS HMU HML HUP HRB HUL HBA HLP HLM hsl ht hK hK2 HX HMC HSU HPO2 HIN HIA hb hlen hbl hrl hS hn hn0 hk hlt
    go_region_held3 (fun w'=>w'.cell? ⟨X,0,none⟩=some (.slice (some ⟨R,0,none⟩) n n))
     (first
       |with_reducible exact k2
       |with_reducible exact k3
       |with_reducible exact k4 _
       |with_reducible exact k5 _
       |with_reducible exact k6 _ _
       |go_keep)
     (first
       |(go_at_call 148;refine(HMUL.out _ H.out.drew.po).mono ?_;rintro e w2 ⟨rfl,hb2⟩;unfold S;have hz:Below wr.1.size wr w2:=(Below.refl _ wr).drew.trans hb2;have k2:w2.cell? ⟨X,0,none⟩=some (.slice (some ⟨R,0,none⟩) n n):=(H.out.here hz).c 3 0 rfl rfl)
       |(go_at_call 155;refine(HDV.out _ (H.out.here hz).po).mono ?_;rintro e w3 ⟨rfl,hb3⟩;have hz2:Below wr.1.size wr w3:=hz.trans (hb3.mono hz.size);have g1:=(H.out.here hz2).f 1 k rfl;have g2:=(H.out.here hz2).f 2 k rfl;have p1:=(H.out.here hz2).c 1 k rfl HPN.out;have p2:=(H.out.here hz2).c 2 k rfl HRN.out;have k3:w3.cell? ⟨X,0,none⟩=some (.slice (some ⟨R,0,none⟩) n n):=(H.out.here hz2).c 3 0 rfl rfl;have k4:∀v,(w3.setCell ⟨P,k,none⟩ v).cell? ⟨X,0,none⟩=some (.slice (some ⟨R,0,none⟩) n n):=(fun v=>((H.out.here hz2).set 1 k rfl v).c 3 0 rfl rfl);have k5:∀v,(w3.setCell ⟨R,k,none⟩ v).cell? ⟨X,0,none⟩=some (.slice (some ⟨R,0,none⟩) n n):=(fun v=>((H.out.here hz2).set 2 k rfl v).c 3 0 rfl rfl);have k6:∀u v,((w3.setCell ⟨P,k,none⟩ u).setCell ⟨R,k,none⟩ v).cell? ⟨X,0,none⟩=some (.slice (some ⟨R,0,none⟩) n n):=(fun u v=>(((H.out.here hz2).set 1 k rfl u).set 2 k rfl v).c 3 0 rfl rfl)))
    all_goals
     go_wp2_with fail
     go_meet
     first
      |(have h9:Kp w [(O,Jc n k,3),(P,(Qo bs n k).setIfInBounds k (.string ⟨tb.toArray⟩),24),(R,(Qo rs n k).setIfInBounds k (.string ⟨tr.toArray⟩),24),(X,#[Value.slice (some ⟨R,0,none⟩) n n],58)] _:=((H.out.here hz2).set 1 k rfl (.string ⟨tb.toArray⟩)).set 2 k rfl (.string ⟨tr.toArray⟩)
        rw[HPA.out,HRA.out] at h9;exact h9)
      |(have h9:Kp w [(O,Jc n k,3),(P,(Qo bs n k).setIfInBounds k (.string ⟨tb.toArray⟩),24),(R,(Qo rs n k).setIfInBounds k (.string ⟨tr.toArray⟩),24),(X,#[Value.slice (some ⟨R,0,none⟩) n n],58)] _:=((H.out.here hz2).set 2 k rfl (.string ⟨tr.toArray⟩)).set 1 k rfl (.string ⟨tb.toArray⟩)
        rw[HPA.out,HRA.out] at h9;exact h9)
   case rest=>
   clear H HMUL HDV HPA HRA HPN HRN nPR nRP d0 HX;have H:=hcut;clear hcut;have p1:wc.cell? ⟨P,k,none⟩=some (.string ⟨tb.toArray⟩):=H.out.c 1 k rfl HPO2.out;go_wp2_with fail
   refine(HSU.out _ H.out.po).mono ?_;rintro e w10 ⟨rfl,hb10⟩;replace H:=jq (H.out.here hb10);clear hb10 p1;have q1:w10.cell? ⟨O,k,none⟩=some (.int .i64 0):=H.out.c 0 k rfl HIN.out;have g1:=H.out.f 0 k rfl
   have H9:=jq (show Kp w [(O,Jc n (k+1),3),(P,Qo bs n (k+1),24),(R,Qo rs n (k+1),24),(X,#[Value.slice (some ⟨R,0,none⟩) n n],58)] (w10.setCell ⟨O,k,none⟩ (.int .i64 (k:Nat))) by
    have h9:Kp w [(O,(Jc n k).setIfInBounds k (.int .i64 (k:Nat)),3),(P,Qo bs n (k+1),24),(R,Qo rs n (k+1),24),(X,#[Value.slice (some ⟨R,0,none⟩) n n],58)] _:=H.out.set 0 k rfl (.int .i64 (k:Nat));rw[HIA.out] at h9;exact h9)
   go_wp2_with fail
   go_roundw
   case rel=>exact⟨k+1,by omega,(by rw[HTM2.out];rfl),by go_num,H9⟩
   case measure=>simp[intOf];omega
  ·obtain rfl:k=n:=by omega
   clear HMU HBA HLP HLM HPS;have hO:=H.out.at_ 0 rfl;rw[Zkb] at hO;have hX:=H.out.c 3 0 rfl rfl;have hRR:=H.out.at_ 2 rfl
   have HSO:=jq (show Calls Tryz.prog 239 #[.slice (some ⟨O,0,none⟩) k k,.func (.func 240) #[] #[.pointer (some ⟨X,0,none⟩)]] wr fun e w'=>e=.returned (.tuple #[])/\wr.grownBy w' (some O)/\BlkB w' O (Zaj (QV rs)) 3 from
    Zj7 Tryz.sortI 240 #[.pointer (some ⟨X,0,none⟩)] rs k O k wr 3 hrl hn0 (by omega) (enters_of Tryz.func240 (by kernel_rfl) rfl) hO
     (fun W' hg x y hx hy=>Zj8 rs k R X x y hx hy (by omega) W'
       ((World.cell?_of_block (hg.block X (H.out.lt 3 rfl) (fun e=>H.out.ne 3 0 rfl rfl (by decide) (by injection e)))).trans hX)
       (fun j hj=>(World.cell?_of_block (hg.block R (H.out.lt 2 rfl) (fun e=>H.out.ne 2 0 rfl rfl (by decide) (by injection e)))).trans (hRR.cell j (by rw[QQ rs k k j hj,if_pos hj])))
       HLR.out))
   clear hO hX hRR;obtain⟨m,hm⟩:∃m:Nat,ms=(m:Int):=⟨ms.toNat,by have:=HMC.out;omega⟩
   have hmk:m<=k:=by have:=HMC.out;omega
   have HSM:=jq (ZiS m (by omega));rw[<-HML.out,hm];rw[hm,Int.toNat_natCast] at HUL;have HOL:=jq (show(QV rs).length=k by rw[Xt];exact hrl);have HON:=jq (VB rs);have HOM:=jq (show ∀q∈QV rs,q<k from fun q hq=>by have:=Jr.1 hq;omega);clear HML HMC hm;generalize QV rs=os at*;generalize Qa (m:Int)=tm at*;unfold S at HSM;go_wp2_with fail
   refine HSO.out.mono ?_;rintro e w2 ⟨rfl,hg2,hB2⟩;have H2:=jq (H.out.grown (i:=0) hg2 rfl hB2);clear hg2 hB2 H HSO;go_wp2_with fail
   refine(HSM.out _ H2.out.pw).mono ?_;rintro e w3 ⟨rfl,hb3⟩;have H3:=jq (H2.out.here hb3);clear hb3 H2 HSM;have i1:(0:Int)<=(m:Int):=by omega
   have i2:(m:Int)<=(k:Int):=by omega
   have HK3:=jq (show Kp w [(O,Zaj os,3),(P,upA bs (os.take 0) k,24),(R,Qo rs k k,24),(X,#[Value.slice (some ⟨R,0,none⟩) k k],58)] w3 by
    rw[List.take_zero,<-ZlK];exact H3.out)
   have HIV:=jq (show ∀(j q:Nat),os[j]?=some q->(Zaj os)[j]?=some (Value.int .i64 (q:Nat)) from fun j q h=>by simp[Zaj,h]);clear H3 HTC HL HS HRB HLR hS hlen hrl hsl ht hK hK2;go_wp2_with fail
   go_loopw [15,73] (fun _ j wr=>∃q:Nat,q<=m/\j=.int .i64 q/\Hid (Kp w [(O,Zaj os,3),(P,upA bs (os.take q) k,24),(R,Qo rs k k,24),(X,#[Value.slice (some ⟨R,0,none⟩) k k],58)] wr)) (fun _ j _=>m-(intOf j).toNat)
   case atStart=>exact⟨0,Nat.zero_le _,rfl,HK3⟩
   case round=>
    clear HK3;obtain⟨q,hq,rfl,H⟩:=hrel
    by_cases hlt:q<m
    ·have hqo:q<os.length:=by have:=HOL.out;omega
     have hoq:os[q]?=some os[q]:=List.getElem?_eq_getElem hqo;have hqk:os[q]<k:=HOM.out _ (List.getElem_mem hqo)
     have hnt:os[q] ∉ os.take q:=fun hm=>by
      obtain⟨j,hj,e⟩:=List.mem_take_iff_getElem.1 hm
      exact(List.pairwise_iff_getElem.1 HON.out) j q (by omega) hqo (by omega) (by simpa using e)
     have HTS:=jq (show os.take (q+1)=os.take q++[os[q]] from List.take_succ_eq_append_getElem hqo);have hcO:=H.out.c 0 q rfl (HIV.out q _ hoq);generalize os[q]=z at*;have HG:=jq (show(upA bs (os.take q) k)[z]?=some (.string ⟨(Qa (bs.getD z 0)).toArray⟩) by rw[Ze1 bs (os.take q) k z hqk,if_neg hnt]);have HSE:=jq (ZlL bs (os.take q) k z hqk hnt);rw[<-HTS.out] at HSE;have HAD:=jq (fun W hp=>JG (Qa (bs.getD z 0)) [49] W hp (HLB.out z hqk) (by simp));rw[Qc,Yn] at HAD;have hcP:=H.out.c 1 z rfl HG.out;unfold S at HAD;generalize Qa (bs.getD z 0)=tz at*;generalize Qa (bs.getD z 0+1)=tz1 at*;have z1:(0:Int)<=(z:Int):=by omega
     have z2:(z:Int)<(k:Int):=by omega
     clear hoq hnt HTS;go_wp2_with fail
     refine(HAD.out _ H.out.po).mono ?_;rintro e w4 ⟨rfl,hb4⟩;unfold S;replace H:=jq (H.out.here hb4);clear hb4 hcO hcP;have g1:=H.out.f 1 z rfl;have hcP:=H.out.c 1 z rfl HG.out
     have H9:=jq (show Kp w [(O,Zaj os,3),(P,upA bs (os.take (q+1)) k,24),(R,Qo rs k k,24),(X,#[Value.slice (some ⟨R,0,none⟩) k k],58)] (w4.setCell ⟨P,z,none⟩ (.string ⟨tz1.toArray⟩)) by
      have h9:Kp w [(O,Zaj os,3),(P,(upA bs (os.take q) k).setIfInBounds z (.string ⟨tz1.toArray⟩),24),(R,Qo rs k k,24),(X,#[Value.slice (some ⟨R,0,none⟩) k k],58)] _:=H.out.set 1 z rfl (.string ⟨tz1.toArray⟩);rw[HSE.out] at h9;exact h9)
     go_wp2_with fail
     go_roundw
     case rel=>exact⟨q+1,by omega,by go_num,H9⟩
     case measure=>simp[intOf];omega
    ·obtain rfl:q=m:=by omega
     have hF:=H.out.at_ 1 rfl;rw[<-HUL.out,HUP.out] at hF;have HF:=jq hF;have hold:=H.out.old 1 rfl;clear hF;go_wp2_with fail
     first|go_ret|skip
     exact⟨P,rfl,by rw[HPQ.out];exact HF.out,hold,H.out.bl⟩
end
section
def Xo(l:List Int)(n:Nat)(w:World)(e:Ending)(w':World):Prop:=∃P,e=.returned (.slice (some ⟨P,0,none⟩) n n)/\BlkB w' P (Qo l n n) 24/\w.1.size<=P/\Below w.1.size w w'
def VD(l:List Int)(n:Nat)(r:Int)(w:World)(e:Ending)(w':World):Prop:=∃P,e=.returned (.tuple #[.slice (some ⟨P,0,none⟩) n n,.int .i64 r])/\BlkB w' P (Qo l n n) 24/\w.1.size<=P/\Below w.1.size w w'
theorem Zf1(t:List UInt8)(A:Option Addr)(n c:Nat)(ws:List (List UInt8))(w:World)(hp:Env w)(hs:XA w w.1.size A n ws)(ht:t.length<=1000)(hl:∀x∈ws,x.length<=1000)(hn0:0<n)(hn:n<=1000)(htc:t=Qa (val t))(h0:0<=val t)(hw0:∀x∈ws,0<=val x)(hS:0<Qw ws):
 Calls Tryz.prog 169 #[S t,.slice A n c] w (Xo (Xz (val t) (ws.map val)) n w):=by
 have HNG:=jq (YQ t (by omega));rw[show decide (val t<0)=false by simpa using h0] at HNG;have HPS:=jq (fun W (hb:Below w.1.size w W)=>Ze2 t A n c ws W (hp.here hb) (hs.here hb) ht hl hn0 hn htc h0 hw0 hS);have HPO:=jq (show ∀e w',Xo (Xz (val t) (ws.map val)) n w e w'=∃P,e=.returned (.slice (some ⟨P,0,none⟩) n n)/\BlkB w' P (Qo (Xz (val t) (ws.map val)) n n) 24/\w.1.size<=P/\Below w.1.size w w' from fun _ _=>rfl);generalize Xo (Xz (val t) (ws.map val)) n w=post at*;have H:=jq (Kp.start hp);generalize Xz (val t) (ws.map val)=ps at*;clear hp hs ht hl hn0 hn htc h0 hw0 hS;unfold S at*
 go_enter Tryz.func169,Tryz.ntmps169
 go_wp2_with fail
 refine(HNG.out _ H.out.pw).mono ?_;rintro e w1 ⟨rfl,hb⟩;replace H:=jq (H.out.here hb);clear hb;go_wp2_with fail
 refine(HPS.out _ H.out.bl).mono ?_;rintro e w2 ⟨P,rfl,hB,hP,hb⟩;have HB:=jq hB;clear hB;go_wp2_with fail
 first|go_ret|skip
 rw[HPO.out];exact⟨P,rfl,HB.out,by have:=H.out.bl.size;omega,(H.out.here hb).bl⟩
theorem ZiV(t:List UInt8)(A:Option Addr)(n c:Nat)(ws:List (List UInt8))(w:World)(hp:Env w)(hs:XA w w.1.size A n ws)(ht:t.length<=1000)(hl:∀x∈ws,x.length<=1000)(hn0:0<n)(hn:n<=1000)(htc:t=Qa (val t))(h0:0<=val t)(hw0:∀x∈ws,0<=val x)(hS:0<Qw ws)(hc:Xa t ws=0):
 Calls Tryz.prog 125 #[S t,.slice A n c] w (VD (Xz (val t) (ws.map val)) n 0 w):=by
 have HCK:=jq (Zdb t A n c ws w hp hs (by omega) (fun x hx=>by have:=hl x hx;omega) (by omega));rw[hc] at HCK;have HPS:=jq (fun W (hb:Below w.1.size w W)=>Zf1 t A n c ws W (hp.here hb) (hs.here hb) ht hl hn0 hn htc h0 hw0 hS);have HPO:=jq (show ∀e w',VD (Xz (val t) (ws.map val)) n 0 w e w'=∃P,e=.returned (.tuple #[.slice (some ⟨P,0,none⟩) n n,.int .i64 0])/\BlkB w' P (Qo (Xz (val t) (ws.map val)) n n) 24/\w.1.size<=P/\Below w.1.size w w' from fun _ _=>rfl);generalize VD (Xz (val t) (ws.map val)) n 0 w=post at*;have H:=jq (Kp.start hp);generalize Xz (val t) (ws.map val)=ps at*;clear hp hs ht hl hn0 hn htc h0 hw0 hS hc;unfold S at*
 go_enter Tryz.func125,Tryz.ntmps125
 go_wp2_with fail
 refine HCK.out.mono ?_;rintro e w1 ⟨rfl,hb⟩;replace H:=jq (H.out.here hb);clear hb;go_wp2_with fail
 refine(HPS.out _ H.out.bl).mono ?_;rintro e w2 ⟨P,rfl,hB,hP,hb⟩;have HB:=jq hB;clear hB;go_wp2_with fail
 first|go_ret2|skip
 rw[HPO.out];exact⟨P,rfl,HB.out,by have:=H.out.bl.size;omega,(H.out.here hb).bl⟩
theorem ZiW(t:List UInt8)(A:Option Addr)(n c:Nat)(ws:List (List UInt8))(w:World)(hp:Env w)(hs:XA w w.1.size A n ws)(ht:t.length<=1000)(hl:∀x∈ws,x.length<=1000)(hn:n<=1000000)(hc:Xa t ws≠0):
 Calls Tryz.prog 125 #[S t,.slice A n c] w fun e w'=>e=.returned (.tuple #[.slice none 0 0,.int .i64 (Xa t ws)])/\Below w.1.size w w':=by
 have HCK:=jq (Zdb t A n c ws w hp hs (by omega) (fun x hx=>by have:=hl x hx;omega) (by omega));generalize Xa t ws=r at*;have hr:(r !=0)=true:=by simpa using hc
 clear hp hs ht hl hn hc;unfold S at*
 go_enter Tryz.func125,Tryz.ntmps125
 go_wp2_with fail
 refine HCK.out.mono ?_;rintro e w1 ⟨rfl,hb⟩;go_wp2_with fail
 first|go_ret2|skip
 exact⟨rfl,hb⟩
end
section
theorem Zke:Xb 46 #[] (QC (Qf 1)):=by
 intro w hp;have H:=jq ((Kp.start hp).new w.1.size rfl #[.string ⟨#[]⟩,.string ⟨#[]⟩] 26);have HOF:=jq (fun W hp=>Zbo [49] W hp (by simp));rw[Yn,show((1:Int):Rat)=1 from rfl] at HOF;generalize Qf 1=f at*;unfold QC S at*
 clear hp;go_enter Tryz.func46,Tryz.ntmps46
 go_wp2_with fail
 generalize w.alloc _=W at*;refine(HOF.out _ H.out.po).mono ?_;rintro e w1 ⟨rfl,hb⟩
 try unfold QC S
 replace H:=jq (H.out.here hb);have c0:w1.cell? ⟨w.1.size,0,none⟩=some (.string ⟨#[]⟩):=H.out.c 0 0 rfl rfl;have c1:w1.cell? ⟨w.1.size,1,none⟩=some (.string ⟨#[]⟩):=H.out.c 0 1 rfl rfl;have f0:=H.out.f 0 0 rfl;have f1:=H.out.f 0 1 rfl;go_wp2_with fail
 refine bodyPost_ret (v:=.agg #[.string ⟨f.n.toArray⟩,.string ⟨f.d.toArray⟩]) (by simp[results,Tryz.results46,go_sem,c0,c1]) rfl ?_;exact⟨rfl,((H.out.set 0 0 rfl _).set 0 1 rfl _).bl⟩
theorem Ju(f:Fr)(hf:f.Sz 20000):Xb 44 #[QC f] (.int .i64 (Xe f.rat 0)):=by
 intro w hp;have H:=jq ((Kp.start hp).new w.1.size rfl #[.string ⟨f.n.toArray⟩,.string ⟨f.d.toArray⟩] 26);have HCM:=jq (fun W hp=>Zbn f Fr.zero W hp hf ⟨by simp[Fr.zero],by simp[Fr.zero]⟩);rw[Zbk] at HCM;generalize Xe f.rat 0=z at*;have x0:(w.alloc (.cells #[.string ⟨f.n.toArray⟩,.string ⟨f.d.toArray⟩] 26)).cell? ⟨w.1.size,0,none⟩=some (.string ⟨f.n.toArray⟩):=H.out.c 0 0 rfl rfl;have x1:(w.alloc (.cells #[.string ⟨f.n.toArray⟩,.string ⟨f.d.toArray⟩] 26)).cell? ⟨w.1.size,1,none⟩=some (.string ⟨f.d.toArray⟩):=H.out.c 0 1 rfl rfl;unfold QC S at*
 unfold Fr.zero at*
 clear hp hf;go_enter Tryz.func44,Tryz.ntmps44
 go_wp2_with fail
 generalize w.alloc _=W at*;refine(HCM.out _ H.out.po).mono ?_;rintro e w1 ⟨rfl,hb⟩;go_wp2_with fail
 first|go_ret|skip
 exact⟨rfl,(H.out.here hb).bl⟩
theorem Zby(f:Fr)(hf:f.Sz 20000):Xb 73 #[QC f] (S (Qa (JY f.rat))):=by
 intro w hp;have H:=jq ((Kp.start hp).new w.1.size rfl #[.string ⟨f.n.toArray⟩,.string ⟨f.d.toArray⟩] 26);have HRD:=jq (Zeo f hf);generalize Qa (JY f.rat)=t at*;have x0:(w.alloc (.cells #[.string ⟨f.n.toArray⟩,.string ⟨f.d.toArray⟩] 26)).cell? ⟨w.1.size,0,none⟩=some (.string ⟨f.n.toArray⟩):=H.out.c 0 0 rfl rfl;have x1:(w.alloc (.cells #[.string ⟨f.n.toArray⟩,.string ⟨f.d.toArray⟩] 26)).cell? ⟨w.1.size,1,none⟩=some (.string ⟨f.d.toArray⟩):=H.out.c 0 1 rfl rfl;unfold QC S at*
 clear hp hf;go_enter Tryz.func73,Tryz.ntmps73
 go_wp2_with fail
 generalize w.alloc _=W at*;refine(HRD.out _ H.out.pw).mono ?_;rintro e w1 ⟨rfl,hb⟩;go_wp2_with fail
 first|go_ret|skip
 exact⟨rfl,(H.out.here hb).bl⟩
theorem Zf3(A:Option Addr)(n c:Nat)(ws:List (List UInt8))(w:World)(hp:Env w)(hs:XA w w.1.size A n ws)(hl:∀x∈ws,x.length<=50000)(hn:n<=9999):
 Calls Tryz.prog 65 #[.slice A n c] w (Qh (Qa (Qw ws)) w):=by
 have HPO:=jq (show Qh (Qa (Qw ws)) w=fun e w'=>e=.returned (S (Qa (Qw ws)))/\Below w.1.size w w' from rfl);generalize Qh (Qa (Qw ws)) w=post at*;have HS:=jq hs;have HL:=jq hl;have H0:=jq (Kp.start hp);have hnw:=hs.1;have HNW:=jq hnw;clear hs hl hp hnw;unfold S at*
 go_enter Tryz.func65,Tryz.ntmps65
 go_wp2_with fail
 go_loopw [3,8] (fun s i wr=>∃k:Nat,k<=n/\i=.int .i64 k/\s=.string ⟨(Qa (Qw (ws.take k))).toArray⟩/\Hid (Kp w [] wr)) (fun _ i _=>n-(intOf i).toNat)
 case atStart=>exact⟨0,Nat.zero_le _,rfl,rfl,H0⟩
 case round=>
  clear H0;obtain⟨k,hk,rfl,rfl,H⟩:=hrel
  by_cases hlt:k<n
  ·obtain⟨b,off,x,rfl,hb,hx,d0⟩:=(HS.out.below H.out.bl).st hlt
   have HA:=jq (JG (Qa (Qw (ws.take k))) x wr H.out.po (by have:=YP HL.out (by rw[<-HNW.out];omega) k;omega) (by have:=HL.out x (List.mem_of_getElem? hx);omega));rw[Qc,<-Zb3 hx] at HA;clear hx;unfold S at HA;go_wp2_with fail
   refine HA.out.mono ?_;rintro e w1 ⟨rfl,hb1⟩
   try unfold S
   go_wp2_with fail
   go_roundw
   case rel=>exact⟨k+1,by omega,by go_num,rfl,H.out.here hb1⟩
   case measure=>simp[intOf];omega
  ·have HE:=jq (show Qa (Qw (ws.take k))=Qa (Qw ws) by rw[List.take_of_length_le (by have:=HNW.out;omega)]);rw[HE.out];go_wp2_with fail
   first|go_ret|skip
   rw[HPO.out];exact⟨rfl,H.out.bl⟩
theorem Zf4(l:List Int)(n:Nat)(hl:∀x∈l,x=0):Qo l n 0=Qo l n n:=by
 unfold Qo
 congr 1
 refine List.map_congr_left fun j hj=> ?_
 rw[if_neg (by omega),if_pos (List.mem_range.1 hj)]
 have h0:l.getD j 0=0:=by
  rw[List.getD_eq_getElem?_getD]
  cases h:l[j]? with
  |none=>rfl
  |some x=>exact hl x (List.mem_of_getElem? h)
 rw[h0];rfl
theorem VS(t:List UInt8)(A:Option Addr)(n c:Nat)(ws:List (List UInt8))(w:World)(hp:Env w)(hs:XA w w.1.size A n ws)(ht:t.length<=1000)(hl:∀x∈ws,x.length<=1000)(hn:n<=1000)(htc:t=Qa (val t))(h0:0<=val t)(hw0:∀x∈ws,0<=val x)(hwc:∀x∈ws,QJ x=true):
 Calls Tryz.prog 74 #[S t,.slice A n c] w (Xo (Yg (val t) (ws.map val)) n w):=by
 have HPO:=jq (show Xo (Yg (val t) (ws.map val)) n w=fun e w'=>∃P,e=.returned (.slice (some ⟨P,0,none⟩) n n)/\BlkB w' P (Qo (Yg (val t) (ws.map val)) n n) 24/\w.1.size<=P/\Below w.1.size w w' from rfl);have HDS:=jq (show Yg (val t) (ws.map val)=if(ws.map val).sum=0 then(ws.map val).map (fun _=>0) else Xz (val t) (ws.map val) from rfl);generalize Xo (Yg (val t) (ws.map val)) n w=post at*;generalize Yg (val t) (ws.map val)=ds at*;have H:=jq (Kp.start hp);have hnw:=hs.1
 have hany:ws.any (fun x=> !QJ x||decide (val x<0))=false:=by
  rw[List.any_eq_false];intro x hx;have h1:=hwc x hx;have h2:=hw0 x hx;simp[h1];exact h2
 have hcb:QJ t=true:=by unfold QJ;simpa using htc
 have hs0:0<=Qw ws:=QP (l:=ws.map val) (fun y hy=>by obtain⟨x,hx,rfl⟩:=List.mem_map.1 hy;exact hw0 x hx)
 by_cases hz:Qw ws=0
 ·have hc:Xa t ws≠0:=by
   unfold Xa
   by_cases h1:ws=[]
   ·rw[if_pos h1];decide
   ·rw[if_neg h1,if_neg (by omega),if_neg (by simp[hcb];simpa using hany),if_pos hz];decide
  have HSN:=jq (ZiW t A n c ws w hp hs ht hl (by omega) hc);have hr:(Xa t ws !=0)=true:=by simpa using hc
  rw[if_pos (show(ws.map val).sum=0 from hz)] at HDS;have hmk:=run_make_row' (P:=Tryz.prog) 58 24 (.string ⟨#[]⟩) 16 Tryz.underlying58 Zid rfl .i64 .i64 n (by omega) (by omega);rw[Yo ds,Zf4 ds n (fun x hx=>by rw[HDS.out] at hx;obtain⟨_,_,rfl⟩:=List.mem_map.1 hx;rfl)] at hmk;generalize Xa t ws=r at*;clear hp hs ht hl hn htc h0 hw0 hwc hany hcb hs0 hz hc hnw HDS;unfold S at*
  go_enter Tryz.func74,Tryz.ntmps74
  go_wp2_with fail
  refine HSN.out.mono ?_;rintro e w1 ⟨rfl,hb⟩;replace H:=jq (H.out.here hb);clear hb;go_wp2_with fail
  first|go_ret|skip
  have H2:=H.out.new w1.1.size rfl (Qo ds n n) 24;rw[HPO.out];exact⟨_,rfl,H2.at_ 0 rfl,H.out.bl.size,H2.bl⟩
 ·have hne:ws≠[]:=fun e=>hz (by rw[e];rfl)
  have hn0:0<n:=by
   rcases Nat.eq_zero_or_pos n with h|h
   ·exact absurd (List.eq_nil_of_length_eq_zero (by omega)) hne
   ·exact h
  have hc:Xa t ws=0:=by
   unfold Xa;rw[if_neg hne,if_neg (by omega),if_neg (by simp[hcb];simpa using hany),if_neg hz]
  have HSO:=jq (ZiV t A n c ws w hp hs ht hl hn0 hn htc h0 hw0 (by omega) hc);rw[if_neg (show ¬(ws.map val).sum=0 from hz)] at HDS;rw[<-HDS.out] at HSO;clear hp hs ht hl hn htc h0 hw0 hwc hany hcb hs0 hz hc hnw HDS hne hn0;unfold S at*
  go_enter Tryz.func74,Tryz.ntmps74
  go_wp2_with fail
  refine HSO.out.mono ?_;rintro e w1 ⟨P,rfl,hB,hP,hb⟩;have HB:=jq hB;clear hB;go_wp2_with fail
  first|go_ret|skip
  rw[HPO.out];exact⟨P,rfl,HB.out,hP,(H.out.here hb).bl⟩
end
section
attribute [local go_sem ↓] Go.wp_at_zero Go.wp_at_succ
theorem Jv(k:Int):Qf (k:Rat)=⟨Qa k,[]⟩:=by
 unfold Qf;rw[Rat.num_intCast,Rat.den_intCast,if_pos rfl]
theorem ZlN{f:Fr}{L:Nat}(h:f.Sz L)(hL:1<=L):(Qa (QK f.rat)).length<=L+2:=by
 have h1:=Zae h hL;have h2:=Zc5 f.rat;have h3:10^L+1<10^(L+1):=by rw[Nat.pow_succ];have:10^1<=10^L:=Nat.pow_le_pow_right (by omega) hL;omega
 exact Qd (L:=L+1) (by have:=h1.1;omega)
theorem Kp.fr{w W:World}{bs:List (Nat×Array Value×TypeId)}{p i:Nat}{f:Fr}{T:TypeId}(h:Kp w bs W)(hb:bs[i]?=some (p,#[.string ⟨f.n.toArray⟩,.string ⟨f.d.toArray⟩],T)):
 W.cell? ⟨p,0,none⟩=some (.string ⟨f.n.toArray⟩)/\W.cell? ⟨p,1,none⟩=some (.string ⟨f.d.toArray⟩):=⟨h.c i 0 hb rfl,h.c i 1 hb rfl⟩
theorem Zhj(f:Fr)(hf:f.Sz 5000):Xb 59 #[QC f] (.tuple #[S (Qa (QK f.rat)),QC (Qf (f.rat-((QK f.rat:Int):Rat)))]):=by
 intro w hp;have H:=jq (((Kp.start hp).new w.1.size rfl #[.string ⟨f.n.toArray⟩,.string ⟨f.d.toArray⟩] 26).new (w.1.size+1) (by simp) #[.string ⟨#[]⟩,.string ⟨#[]⟩] 26);have hfl:=ZlN hf (by omega);have HFL:=jq (Zen f (hf.more (by omega)));have HOF:=jq (fun W hp=>Zbo (Qa (QK f.rat)) W hp (by omega));rw[Qc] at HOF;have HSU:=jq (fun W hp=>ZfN f (Qf ((QK f.rat:Int):Rat)) W hp (hf.more (by omega)) (by rw[Jv];exact⟨by show(Qa _).length<=_;omega,by simp⟩));rw[Qj] at HSU;generalize Qa (QK f.rat)=t at*;generalize Qf (f.rat-((QK f.rat:Int):Rat))=res at*;generalize Qf ((QK f.rat:Int):Rat)=g at*;have x0:=H.out.c 1 0 rfl rfl;have x1:=H.out.c 1 1 rfl rfl;unfold QC at*
 unfold S at*
 clear hp hf hfl;go_enter Tryz.func59,Tryz.ntmps59
 go_wp2_with fail
 generalize (w.alloc (.cells #[.string ⟨f.n.toArray⟩,.string ⟨f.d.toArray⟩] 26)).alloc (.cells #[.string ⟨#[]⟩,.string ⟨#[]⟩] 26)=W at*;refine(HFL.out _ H.out.pw).mono ?_;rintro e w1 ⟨rfl,hb⟩;replace H:=jq (H.out.here hb);clear hb x0 x1;have x0:=H.out.c 1 0 rfl rfl;have x1:=H.out.c 1 1 rfl rfl;go_wp2_with fail
 go_region_held3 (fun w'=>w'.cell? ⟨w.1.size,0,none⟩=some (.string ⟨f.n.toArray⟩)/\w'.cell? ⟨w.1.size,1,none⟩=some (.string ⟨f.d.toArray⟩))
  (first
    |exact k2
    |exact k3
    |exact k4 _ _
    |go_keep)
  (first
    |(go_at_call 60;refine(HOF.out _ H.out.drew.po).mono ?_;rintro e w2 ⟨rfl,hb2⟩;unfold QC S;have hz:Below w1.1.size w1 w2:=(Below.refl _ w1).drew.trans hb2;have k2:=(H.out.here hz).fr (f:=f) (i:=1) rfl)
    |(go_at_call 102;refine(HSU.out _ (H.out.here hz).po).mono ?_;rintro e w3 ⟨rfl,hb3⟩;unfold QC S;have hz2:Below w1.1.size w1 w3:=hz.trans (hb3.mono hz.size);have k3:=(H.out.here hz2).fr (f:=f) (i:=1) rfl;have n0:=(H.out.here hz2).c 0 0 rfl rfl;have n1:=(H.out.here hz2).c 0 1 rfl rfl;have g0:=(H.out.here hz2).f 0 0 rfl;have g1:=(H.out.here hz2).f 0 1 rfl;have k4:=(fun u v=>(((H.out.here hz2).set 0 0 rfl u).set 0 1 rfl v).fr (f:=f) (i:=1) rfl)))
 all_goals
  go_wp2_with fail
  refine bodyPost_ret (v:=.tuple #[.string ⟨t.toArray⟩,.agg #[.string ⟨res.n.toArray⟩,.string ⟨res.d.toArray⟩]]) (by simp[results,Tryz.results59,go_sem,n0,n1]) rfl ?_;exact⟨rfl,(((H.out.here hz2).set 0 0 rfl _).set 0 1 rfl _).bl⟩
end
section
theorem ZlO(q:Rat):(JY q).natAbs<=q.num.natAbs+2:=by
 have h1:=Zc5 q
 rcases(JK q).2 with h|⟨h,_⟩<;>omega
theorem Zhk{K:Nat}(hK:K<=4000)(hK1:1<=K)(t p a:Int)(ht:t.natAbs<10^K)(hpp:p.natAbs<10^K)(ha:a.natAbs<10^K)(h0:0<=p)(h1:p<=a)(h2:a≠0):
 Xb 128 #[S (Qa t),S (Qa p),S (Qa a)] (.tuple #[S (Qa (Vm t p a)),S (Qa (t-Vm t p a)),.int .i64 0]):=by
 intro w hp;have H:=jq (Kp.start hp);have lt:=Qd ht;have lp:=Qd hpp;have la:=Qd ha;have HCT:=jq (XV (Qa t) (by omega));have HCP:=jq (XV (Qa p) (by omega));have HCA:=jq (XV (Qa a) (by omega));rw[if_pos (by rw[Qc])] at HCT HCP HCA;have HNA:=jq (YQ (Qa a) (by omega));have HNP:=jq (YQ (Qa p) (by omega));rw[Qc,show decide (a<0)=false by simp;omega] at HNA;rw[Qc,show decide (p<0)=false by simp;omega] at HNP;have HCM:=jq (fun W=>Xf (Qa p) (Qa a) W (by omega) (by omega));rw[Qc,Qc] at HCM;have hgt:decide (0<Qy (p-a))=false:=by unfold Qy;simp;split<;>(try split)<;>omega
 have HMU:=jq (fun W hp=>JH (Qa t) (Qa p) W hp (by omega) (by omega));rw[Qc,Qc] at HMU;have hm:=QB ht hpp;have lm:=Qd hm;have HNW:=jq (ZlD ⟨Qa (t*p),Qa a⟩ ⟨by show(Qa _).length<=_;omega,by show(Qa _).length<=_;omega⟩);have hnl:nwL ⟨Qa (t*p),Qa a⟩=(Qf (Rat.divInt (t*p) a),0):=by unfold nwL;simp only[Qc];rw[if_neg h2]
 rw[hnl] at HNW;have hrb:RB (K+K) (Rat.divInt (t*p) a):=RB.divInt hm (Nat.lt_of_lt_of_le ha (Nat.pow_le_pow_right (by omega) (by omega))) h2;have hsz:=QF hrb;have HRD:=jq (Zeo (Qf (Rat.divInt (t*p) a)) (hsz.more (by omega)));rw[Qj,show JY (Rat.divInt (t*p) a)=Vm t p a from rfl] at HRD
 have hsl:(Vm t p a).natAbs<10^(K+K+1):=by
  have h1:=ZlO (Rat.divInt (t*p) a);have h3:=hrb.1;have h4:10^(K+K)+2<10^(K+K+1):=by rw[Nat.pow_succ];have:10^1<=10^(K+K):=Nat.pow_le_pow_right (by omega) (by omega);omega
  show(JY _).natAbs<_
  omega
 have ls:=Qd hsl;have HSB:=jq (fun W hp=>Zbj (Qa t) (Qa (Vm t p a)) W hp (by omega) (by omega));rw[Qc,Qc] at HSB
 have hn:(Qa a==[])=false:=by
  rw[Bool.eq_false_iff];intro h;exact h2 (XN.1 (eq_of_beq h))
 have hn2:(Qa a).isEmpty=false:=by rw[<-hn];cases Qa a<;>rfl
 clear ht hpp ha h0 h1 h2 lt lp la hm lm hnl hrb hsz hsl ls hK hK1 hp;generalize Qf (Rat.divInt (t*p) a)=q at*;generalize Qa (Vm t p a)=ts at*;generalize Qa (t-Vm t p a)=tr at*;generalize Qa (t*p)=tm at*;generalize Qa t=tt at*;generalize Qa p=tp at*;generalize Qa a=ta at*;generalize Qy (p-a)=sg at*;have HN:=jq hn;unfold QC at*
 unfold S at*
 go_enter Tryz.func128,Tryz.ntmps128
 go_wp2_with fail
 refine(HCT.out _ H.out.pw).mono ?_;rintro e w1 ⟨rfl,hb⟩;replace H:=jq (H.out.here hb);clear hb;go_wp2_with fail
 refine(HCP.out _ H.out.pw).mono ?_;rintro e w2 ⟨rfl,hb⟩;replace H:=jq (H.out.here hb);clear hb;go_wp2_with fail
 refine(HCA.out _ H.out.pw).mono ?_;rintro e w3 ⟨rfl,hb⟩;replace H:=jq (H.out.here hb);clear hb;go_wp2_with fail
 refine(HNA.out _ H.out.pw).mono ?_;rintro e w4 ⟨rfl,hb⟩;replace H:=jq (H.out.here hb);clear hb;go_wp2_with fail
 refine(HNP.out _ H.out.pw).mono ?_;rintro e w5 ⟨rfl,hb⟩;replace H:=jq (H.out.here hb);clear hb;go_wp2_with fail
 refine(HCM.out _).mono ?_;rintro e w6 ⟨rfl,hb⟩;replace H:=jq (H.out.here hb);clear hb;go_wp2_with fail
 refine(HMU.out _ H.out.po).mono ?_;rintro e w7 ⟨rfl,hb⟩
 try unfold S
 replace H:=jq (H.out.here hb);clear hb;go_wp2_with fail
 refine(HNW.out _ H.out.pw).mono ?_;rintro e w8 ⟨rfl,hb⟩;replace H:=jq (H.out.here hb);clear hb;replace H:=jq (H.out.new w8.1.size rfl #[.string ⟨q.n.toArray⟩,.string ⟨q.d.toArray⟩] 26);have x0:=H.out.c 0 0 rfl rfl;have x1:=H.out.c 0 1 rfl rfl;go_wp2_with fail
 generalize w8.alloc _=W at*;refine(HRD.out _ H.out.pw).mono ?_;rintro e w9 ⟨rfl,hb⟩;replace H:=jq (H.out.here hb);clear hb x0 x1;go_wp2_with fail
 refine(HSB.out _ H.out.po).mono ?_;rintro e w10 ⟨rfl,hb⟩
 try unfold S
 go_wp2_with fail
 refine bodyPost_ret (v:=.tuple #[.string ⟨ts.toArray⟩,.string ⟨tr.toArray⟩,.int .i64 0]) (by simp[results,Tryz.results128,go_sem]) rfl ?_;exact⟨rfl,(H.out.here hb).bl⟩
end
section
attribute [local go_sem ↓] Go.wp_at_zero Go.wp_at_succ
def mpA(m:Mp):List Value:=[S m.cause,.int .i64 m.day,S m.inst,S m.other,S m.ratio.n,S m.ratio.d,S m.share.n,S m.share.d,S m.price.n,S m.price.d,.bool m.keep]
structure PlV where
 m:Mp
 oA:Option Addr
 on:Nat
 oc:Nat
 parts:List UInt8
 part:Fr
 n:Value
 q:Value
 f:Value
 p:Value
def plA(v:PlV):List Value:=mpA v.m++[.slice v.oA v.on v.oc,S v.parts,S v.part.n,S v.part.d,v.n,v.q,v.f,v.p]
theorem Zdh{K:Nat}(hK:K<=5000)(hK1:1<=K)(f:Fr)(d:Int)(D:Nat)(w:World)(hp:Env w)(hf:f.Sz K)(hd:d.natAbs<10^K)(hD:w.cell? ⟨D,0,none⟩=some (.string ⟨(Qa d).toArray⟩)):
 Calls Tryz.prog 127 #[QC f,.pointer (some ⟨D,0,none⟩)] w fun e w'=>e=.returned (S (Qa (QK (f.rat*(d:Rat)))))/\Below w.1.size w w':=by
 have H:=jq ((Kp.start hp).new w.1.size rfl #[.string ⟨f.n.toArray⟩,.string ⟨f.d.toArray⟩] 26);have hlt:=World.block_lt_of_cell? w _ hD;have hne:D≠w.1.size:=by have:D<w.1.size:=hlt;omega
 have HD:=jq (show ∀W',Below w.1.size w W'->W'.cell? ⟨D,0,none⟩=some (.string ⟨(Qa d).toArray⟩) from fun W' hb=>(hb.cell (p:=⟨D,0,none⟩) hlt).trans hD);have ld:=Qd hd;have hg:(Qf (d:Rat)).Sz (K+1):=by rw[Jv];exact⟨ld,by simp⟩
 have HOF:=jq (fun W hp=>Zbo (Qa d) W hp (by omega));rw[Qc] at HOF;have HMU:=jq (fun W hp=>Zbm f (Qf (d:Rat)) W hp (hf.more (by omega)) (hg.more (by omega)));rw[Qj] at HMU;have hm:=QF (ZjP (hf.more (show K<=K+1 by omega)) hg (by omega));rw[Qj] at hm;have HFL:=jq (Zen (Qf (f.rat*(d:Rat))) (hm.more (by omega)));rw[Qj] at HFL;generalize Qa (QK (f.rat*(d:Rat)))=res at*;generalize Qf (f.rat*(d:Rat))=mu at*;generalize Qf (d:Rat)=g at*;generalize Qa d=td at*;clear hp hf hd hD hK hK1 ld hg hm hlt;unfold QC at*
 unfold S at*
 have y0:=HD.out _ H.out.bl;have x0:=H.out.c 0 0 rfl rfl;have x1:=H.out.c 0 1 rfl rfl;go_enter Tryz.func127,Tryz.ntmps127
 go_upto_region 1 with (fail)
 generalize w.alloc _=W at*
 go_region_held3 (fun w'=>w'.cell? ⟨w.1.size,0,none⟩=some (.string ⟨f.n.toArray⟩)/\w'.cell? ⟨w.1.size,1,none⟩=some (.string ⟨f.d.toArray⟩)/\w'.cell? ⟨D,0,none⟩=some (.string ⟨td.toArray⟩))
  (first
    |exact k2
    |exact k3
    |exact k4
    |go_keep)
  (first
    |(go_at_call 60;refine(HOF.out _ H.out.drew.po).mono ?_;rintro e w2 ⟨rfl,hb2⟩;unfold QC S;have hz:Below W.1.size W w2:=(Below.refl _ W).drew.trans hb2;have k2:=And.intro ((H.out.here hz).c 0 0 rfl rfl) (And.intro ((H.out.here hz).c 0 1 rfl rfl) (HD.out _ (H.out.here hz).bl)))
    |(go_at_call 55;refine(HMU.out _ (H.out.here hz).po).mono ?_;rintro e w3 ⟨rfl,hb3⟩;unfold QC S;have hz2:Below W.1.size W w3:=hz.trans (hb3.mono hz.size);have k3:=And.intro ((H.out.here hz2).c 0 0 rfl rfl) (And.intro ((H.out.here hz2).c 0 1 rfl rfl) (HD.out _ (H.out.here hz2).bl)))
    |(go_at_call 113;refine(HFL.out _ (H.out.here hz2).pw).mono ?_;rintro e w4 ⟨rfl,hb4⟩;have hz3:Below W.1.size W w4:=hz2.trans (hb4.mono hz2.size);have k4:=And.intro ((H.out.here hz3).c 0 0 rfl rfl) (And.intro ((H.out.here hz3).c 0 1 rfl rfl) (HD.out _ (H.out.here hz3).bl))))
 all_goals
  go_wp2_with fail
  first|go_ret|skip
  exact⟨rfl,(H.out.here hz3).bl⟩
def Zdi(q:Rat)(mv:Int):Int:=if q-((QK q:Int):Rat)=0 then 0 else if QK q=0 then mv else Vm mv (Yr q) q.num
theorem Ze3(q:Rat):QK ((q-((QK q:Int):Rat))*((q.den:Int):Rat))=Yr q:=by
 have e:(q-((QK q:Int):Rat))*((q.den:Int):Rat)=((Yr q:Int):Rat):=by
  rw[ZaI];have hd:(q.den:Int)≠0:=by have:=q.den_nz;omega
  rw[<-Xw (q.den:Int),Rat.divInt_mul_divInt,<-Xw (Yr q),Rat.divInt_eq_divInt_iff (by omega) (by omega)];simp
 rw[e];unfold QK;simp
theorem ZlP(q:Rat):QK (q*((q.den:Int):Rat))=q.num:=by
 have e:q*((q.den:Int):Rat)=((q.num:Int):Rat):=by
  have hd:(q.den:Int)≠0:=by have:=q.den_nz;omega
  conv=>lhs;lhs;rw[JI q]
  rw[<-Xw (q.den:Int),Rat.divInt_mul_divInt,<-Xw q.num,Rat.divInt_eq_divInt_iff (by omega) (by omega)];simp
 rw[e];unfold QK;simp
theorem Zhm(v:PlV)(q:Rat)(mv:Int)(w:World){K:Nat}(hK:K<=3000)(hK1:1<=K)(hp:Env w)(hq:RB K q)(hmv:mv.natAbs<10^K)(h0:0<=q)(hv1:v.parts=Qa (QK q))(hv2:v.part=Qf (q-((QK q:Int):Rat))):
 Calls Tryz.prog 75 #[.agg (plA v).toArray,S (Qa mv),QC (Qf q)] w fun e w'=>e=.returned (S (Qa (Zdi q mv)))/\Below w.1.size w w':=by
 obtain⟨m,oA,on,oc,parts,part,vn,vq,vf,vp⟩:=v
 simp only at hv1 hv2
 subst hv1;subst hv2
 have H:=jq (((Kp.start hp).new w.1.size rfl (plA ⟨m,oA,on,oc,Qa (QK q),Qf (q-((QK q:Int):Rat)),vn,vq,vf,vp⟩).toArray 60).new (w.1.size+1) (by simp) #[.string ⟨(Qf q).n.toArray⟩,.string ⟨(Qf q).d.toArray⟩] 26);have hbd:=XL q;have hnum:=Zbq q;have hf0:=JJ h0;have hn0:0<=q.num:=Rat.num_nonneg.2 h0;have hd0:0<(q.den:Int):=by have:=q.den_pos;omega
 have hfl1:Yr q<=q.num:=by
  have:0<=(q.den:Int)*QK q:=Int.mul_nonneg (by omega) hf0
  omega
 have hq1:=hq.1;have hq2:=hq.2;have hpt:RB K (q-((QK q:Int):Rat)):=by rw[ZaI];exact RB.divInt (by omega) (by omega) (by omega)
 have sz1:=QF hpt;have sz2:=QF hq;have HSG:=jq (Ju (Qf (q-((QK q:Int):Rat))) (sz1.more (by omega)));rw[Qj] at HSG
 have hsg:(Xe (q-((QK q:Int):Rat)) 0==0)=decide (q-((QK q:Int):Rat)=0):=by
  unfold Xe;rw[Bool.eq_iff_iff];simp only[beq_iff_eq,decide_eq_true_eq]
  constructor
  ·intro h
   split at h
   ·cases h
   ·split at h
    ·cases h
    ·rename_i h1 h2
     exact Rat.le_antisymm (Rat.not_lt.1 h2) (Rat.not_lt.1 h1)
  ·intro h;rw[h];rfl
 have HFI:=jq (show Zdi q mv=if q-((QK q:Int):Rat)=0 then 0 else if QK q=0 then mv else Vm mv (Yr q) q.num from rfl);have hpow5:10^K<=10^(K+1):=Nat.pow_le_pow_right (by omega) (by omega);have HPZ:=jq (Zem (Qf q) (sz2.more (by omega)));rw[Qj] at HPZ;have HF1:=jq (fun D W hp hD=>Zdh (K:=K+1) (by omega) (by omega) (Qf (q-((QK q:Int):Rat))) (q.den:Int) D W hp sz1 (by omega) hD);have HF2:=jq (fun D W hp hD=>Zdh (K:=K+1) (by omega) (by omega) (Qf q) (q.den:Int) D W hp sz2 (by omega) hD);rw[Qj,Ze3] at HF1;rw[Qj,ZlP] at HF2;have HSH:=jq (fun h2=>Zhk (K:=K) (by omega) hK1 mv (Yr q) q.num hmv (by omega) hq1 hbd.1 hfl1 h2)
 have hte:(Qa (QK q)==[])=decide (QK q=0):=by
  rw[Bool.eq_iff_iff];simp only[beq_iff_eq,decide_eq_true_eq];exact XN
 have hnz:QK q≠0->q.num≠0:=by
  intro h1 h2;have h3:0<(q.den:Int)*QK q:=Int.mul_pos hd0 (by omega);omega
 have e19:(plA ⟨m,oA,on,oc,Qa (QK q),Qf (q-((QK q:Int):Rat)),vn,vq,vf,vp⟩).toArray=#[.string ⟨m.cause.toArray⟩,.int .i64 m.day,.string ⟨m.inst.toArray⟩,.string ⟨m.other.toArray⟩,.string ⟨m.ratio.n.toArray⟩,.string ⟨m.ratio.d.toArray⟩,.string ⟨m.share.n.toArray⟩,.string ⟨m.share.d.toArray⟩,.string ⟨m.price.n.toArray⟩,.string ⟨m.price.d.toArray⟩,.bool m.keep,.slice oA on oc,.string ⟨(Qa (QK q)).toArray⟩,.string ⟨(Qf (q-((QK q:Int):Rat))).n.toArray⟩,.string ⟨(Qf (q-((QK q:Int):Rat))).d.toArray⟩,vn,vq,vf,vp]:=rfl;rw[e19] at H ⊢;clear e19 hp hq hmv h0 hbd hnum hf0 hn0 hd0 hfl1 hq1 hq2 hpt sz1 sz2 hpow5 hK hK1
 by_cases hz:q-((QK q:Int):Rat)=0
 ·rw[if_pos hz] at HFI;have hs:(Xe (q-((QK q:Int):Rat)) 0==0)=true:=by rw[hsg];simpa using hz
  clear hsg hz hte hnz HPZ HF1 HF2 HSH;generalize Qf (q-((QK q:Int):Rat))=pt at*;generalize Xe (q-((QK q:Int):Rat)) 0=sg at*;generalize Qa (QK q)=tq at*;generalize Qf q=fq at*;generalize Qa mv=tm at*;generalize Zdi q mv=res at*;have HFI2:=HFI.out;subst HFI2;unfold QC S at*
  have x13:=H.out.c 1 13 rfl rfl;have x14:=H.out.c 1 14 rfl rfl;go_enter Tryz.func75,Tryz.ntmps75
  go_wp2_with fail
  generalize (w.alloc (.cells #[.string ⟨m.cause.toArray⟩,.int .i64 m.day,.string ⟨m.inst.toArray⟩,.string ⟨m.other.toArray⟩,.string ⟨m.ratio.n.toArray⟩,.string ⟨m.ratio.d.toArray⟩,.string ⟨m.share.n.toArray⟩,.string ⟨m.share.d.toArray⟩,.string ⟨m.price.n.toArray⟩,.string ⟨m.price.d.toArray⟩,.bool m.keep,.slice oA on oc,.string ⟨tq.toArray⟩,.string ⟨pt.n.toArray⟩,.string ⟨pt.d.toArray⟩,vn,vq,vf,vp] 60)).alloc (.cells #[.string ⟨fq.n.toArray⟩,.string ⟨fq.d.toArray⟩] 26)=W at*;refine(HSG.out _ H.out.pw).mono ?_;rintro e w1 ⟨rfl,hb⟩;go_wp2_with fail
  first|go_ret|skip
  exact⟨rfl,(H.out.here hb).bl⟩
 ·rw[if_neg hz] at HFI;have hs:(Xe (q-((QK q:Int):Rat)) 0==0)=false:=by rw[hsg];simpa using hz
  clear hsg hz
  have hie:(Qa (QK q)).isEmpty=(Qa (QK q)==[]):=by cases Qa (QK q)<;>rfl
  by_cases hq0:QK q=0
  ·rw[if_pos hq0] at HFI;have ht1:(Qa (QK q)==[])=true:=by rw[hte];simpa using hq0
   have ht2:(Qa (QK q)).isEmpty=true:=by rw[hie];exact ht1
   clear hq0 hte hie hnz HPZ HF1 HF2 HSH;generalize Qf (q-((QK q:Int):Rat))=pt at*;generalize Xe (q-((QK q:Int):Rat)) 0=sg at*;generalize Qa (QK q)=tq at*;generalize Qf q=fq at*;generalize Zdi q mv=res at*;have HFI2:=HFI.out;subst HFI2;generalize Qa res=tm at*;unfold QC S at*
   have x13:=H.out.c 1 13 rfl rfl;have x14:=H.out.c 1 14 rfl rfl;go_enter Tryz.func75,Tryz.ntmps75
   go_wp2_with fail
   generalize (w.alloc (.cells #[.string ⟨m.cause.toArray⟩,.int .i64 m.day,.string ⟨m.inst.toArray⟩,.string ⟨m.other.toArray⟩,.string ⟨m.ratio.n.toArray⟩,.string ⟨m.ratio.d.toArray⟩,.string ⟨m.share.n.toArray⟩,.string ⟨m.share.d.toArray⟩,.string ⟨m.price.n.toArray⟩,.string ⟨m.price.d.toArray⟩,.bool m.keep,.slice oA on oc,.string ⟨tq.toArray⟩,.string ⟨pt.n.toArray⟩,.string ⟨pt.d.toArray⟩,vn,vq,vf,vp] 60)).alloc (.cells #[.string ⟨fq.n.toArray⟩,.string ⟨fq.d.toArray⟩] 26)=W at*;refine(HSG.out _ H.out.pw).mono ?_;rintro e w1 ⟨rfl,hb⟩;replace H:=jq (H.out.here hb);clear x13 x14 hb;have x12:=H.out.c 1 12 rfl rfl;go_wp2_with fail
   first|go_ret|skip
   exact⟨rfl,H.out.bl⟩
  ·rw[if_neg hq0] at HFI;have ht1:(Qa (QK q)==[])=false:=by rw[hte];simpa using hq0
   have ht2:(Qa (QK q)).isEmpty=false:=by rw[hie];exact ht1
   have HS2:=jq (HSH.out (hnz hq0));rw[<-HFI.out] at HS2;clear hq0 hte hie hnz HSH HFI;generalize Qf (q-((QK q:Int):Rat))=pt at*;generalize Xe (q-((QK q:Int):Rat)) 0=sg at*;generalize Qa (QK q)=tq at*;generalize Qf q=fq at*;generalize Qa (mv-Zdi q mv)=tr at*;generalize Qa (Zdi q mv)=res at*;generalize Qa mv=tm at*;generalize Qa (Yr q)=t1 at*;generalize Qa q.num=t2 at*;generalize Qa (q.den:Int)=t3 at*;unfold QC S at*
   have x13:=H.out.c 1 13 rfl rfl;have x14:=H.out.c 1 14 rfl rfl;go_enter Tryz.func75,Tryz.ntmps75
   go_wp2_with fail
   generalize (w.alloc (.cells #[.string ⟨m.cause.toArray⟩,.int .i64 m.day,.string ⟨m.inst.toArray⟩,.string ⟨m.other.toArray⟩,.string ⟨m.ratio.n.toArray⟩,.string ⟨m.ratio.d.toArray⟩,.string ⟨m.share.n.toArray⟩,.string ⟨m.share.d.toArray⟩,.string ⟨m.price.n.toArray⟩,.string ⟨m.price.d.toArray⟩,.bool m.keep,.slice oA on oc,.string ⟨tq.toArray⟩,.string ⟨pt.n.toArray⟩,.string ⟨pt.d.toArray⟩,vn,vq,vf,vp] 60)).alloc (.cells #[.string ⟨fq.n.toArray⟩,.string ⟨fq.d.toArray⟩] 26)=W at*;refine(HSG.out _ H.out.pw).mono ?_;rintro e w1 ⟨rfl,hb⟩;replace H:=jq (H.out.here hb);clear x13 x14 hb;have x12:=H.out.c 1 12 rfl rfl;have y0:=H.out.c 0 0 rfl rfl;have y1:=H.out.c 0 1 rfl rfl;go_wp2_with fail
   refine(HPZ.out _ H.out.pw).mono ?_;rintro e w2 ⟨rfl,hb⟩;replace H:=jq (H.out.here hb);clear x12 y0 y1 hb;go_upto_region 7 with (fail)
   replace H:=jq (H.out.new w2.1.size rfl #[.string ⟨t3.toArray⟩] 24);obtain⟨D,hD⟩:∃D,D=w2.1.size:=⟨_,rfl⟩
   rw[<-hD] at H ⊢;generalize w2.alloc _=W2 at*;clear hD;have y0:=H.out.c 1 0 rfl rfl;have y1:=H.out.c 1 1 rfl rfl;have x13:=H.out.c 2 13 rfl rfl;have x14:=H.out.c 2 14 rfl rfl
   go_region_held3 (fun w'=>w'.cell? ⟨w.1.size+1,0,none⟩=some (.string ⟨fq.n.toArray⟩)/\w'.cell? ⟨w.1.size+1,1,none⟩=some (.string ⟨fq.d.toArray⟩)/\w'.cell? ⟨w.1.size,13,none⟩=some (.string ⟨pt.n.toArray⟩)/\w'.cell? ⟨w.1.size,14,none⟩=some (.string ⟨pt.d.toArray⟩))
    (first
      |exact k2
      |exact k3
      |exact k4
      |go_keep)
    (first
      |(go_at_call_of 127 (Value.agg #[.string ⟨pt.n.toArray⟩,.string ⟨pt.d.toArray⟩]);refine(HF1.out D _ H.out.drew.pw (H.out.drew.c 0 0 rfl rfl)).mono ?_;rintro e w3 ⟨rfl,hb3⟩;have hz:Below W2.1.size W2 w3:=(Below.refl _ W2).drew.trans hb3;have k2:=And.intro ((H.out.here hz).c 1 0 rfl rfl) (And.intro ((H.out.here hz).c 1 1 rfl rfl) (And.intro ((H.out.here hz).c 2 13 rfl rfl) ((H.out.here hz).c 2 14 rfl rfl))))
      |(go_at_call_of 127 (Value.agg #[.string ⟨fq.n.toArray⟩,.string ⟨fq.d.toArray⟩]);refine(HF2.out D _ (H.out.here hz).pw ((H.out.here hz).c 0 0 rfl rfl)).mono ?_;rintro e w4 ⟨rfl,hb4⟩;have hz2:Below W2.1.size W2 w4:=hz.trans (hb4.mono hz.size);have k3:=And.intro ((H.out.here hz2).c 1 0 rfl rfl) (And.intro ((H.out.here hz2).c 1 1 rfl rfl) (And.intro ((H.out.here hz2).c 2 13 rfl rfl) ((H.out.here hz2).c 2 14 rfl rfl))))
      |(go_at_call 128;refine(HS2.out _ (H.out.here hz2).pw).mono ?_;rintro e w5 ⟨rfl,hb5⟩;have hz3:Below W2.1.size W2 w5:=hz2.trans (hb5.mono hz2.size);have k4:=And.intro ((H.out.here hz3).c 1 0 rfl rfl) (And.intro ((H.out.here hz3).c 1 1 rfl rfl) (And.intro ((H.out.here hz3).c 2 13 rfl rfl) ((H.out.here hz3).c 2 14 rfl rfl)))))
   all_goals
    go_wp2_with fail
    first|go_ret|skip
    exact⟨rfl,(H.out.here hz3).bl⟩
end
section
theorem ZgM{α:Type}(l:List α)(z:α)(k:Nat){x:α}(hk:l[k]?=some x):(l.take k++List.replicate (l.length-k) z).set k x=l.take (k+1)++List.replicate (l.length-(k+1)) z:=by
 obtain⟨h,rfl⟩:=List.getElem?_eq_some_iff.1 hk
 have e:(l.take k).length=k:=by rw[List.length_take];omega
 rw[List.set_append_right _ _ (by omega),e,Nat.sub_self,show l.length-k=(l.length-(k+1))+1 by omega,List.replicate_succ,List.set_cons_zero,List.take_succ_eq_append_getElem h,List.append_assoc];rfl
theorem ZgN{α:Type}(l:List α)(z:α)(k:Nat)(hk:k<l.length):(l.take k++List.replicate (l.length-k) z)[k]?=some z:=by
 have e:(l.take k).length=k:=by rw[List.length_take];omega
 rw[List.getElem?_append_right (by omega),e,Nat.sub_self,List.getElem?_replicate,if_pos (by omega)]
def txA(l:List Int):Array Value:=(l.map fun x=>Value.string ⟨(Qa x).toArray⟩).toArray
theorem ZbV{l:List Int}{i:Nat}{x:Int}(h:l[i]?=some x):(txA l)[i]?=some (.string ⟨(Qa x).toArray⟩):=by
 simp[txA,h]
theorem ZiC(l:List Int)(i:Nat)(y:Int):(txA l).setIfInBounds i (.string ⟨(Qa y).toArray⟩)=txA (l.set i y):=by
 unfold txA
 apply Array.ext'
 simp[List.map_set]
theorem ZgO(n:Nat):madeCells #[.string ⟨#[]⟩] n=txA (List.replicate n 0):=by
 apply Array.ext_getElem?
 intro i
 by_cases hi:i<n
 ·rw[ZbV (x:=0) (by rw[List.getElem?_replicate,if_pos hi])];simp[madeCells,hi,Nat.mod_one]
  rfl
 ·rw[Array.getElem?_eq_none (by simp[madeCells];omega),Array.getElem?_eq_none (by simp[txA];omega)]
theorem ZdU(l:List Int)(n:Nat)(hn:l.length=n):txA l=Qo l n n:=by
 apply Array.ext_getElem?
 intro i
 by_cases hi:i<n
 ·rw[QQ l n n i hi,if_pos hi,ZbV (x:=l.getD i 0) (by simp[List.getD,show i<l.length by omega])]
 ·rw[Array.getElem?_eq_none (by simp[txA];omega),Array.getElem?_eq_none (by simp[Qo];omega)]
def frA(l:List Rat):Array Value:=(l.flatMap fun q=>[Value.string ⟨(Qf q).n.toArray⟩,.string ⟨(Qf q).d.toArray⟩]).toArray
theorem Zfn(q:Rat):([Value.string ⟨(Qf q).n.toArray⟩,.string ⟨(Qf q).d.toArray⟩]:List Value).length=2:=rfl
theorem Zay{l:List Rat}{i:Nat}{q:Rat}(h:l[i]?=some q):(frA l)[i*2]?=some (.string ⟨(Qf q).n.toArray⟩):=by
 unfold frA;rw[List.getElem?_toArray,show i*2=i*2+0 from rfl];exact Zbg (k:=2) Zfn l i 0 q _ h rfl
theorem Zaz{l:List Rat}{i:Nat}{q:Rat}(h:l[i]?=some q):(frA l)[i*2+1]?=some (.string ⟨(Qf q).d.toArray⟩):=by
 unfold frA;rw[List.getElem?_toArray];exact Zbg (k:=2) Zfn l i 1 q _ h rfl
theorem ZiD(l:List Rat)(i:Nat)(q:Rat):((frA l).setIfInBounds (i*2) (.string ⟨(Qf q).n.toArray⟩)).setIfInBounds (i*2+1) (.string ⟨(Qf q).d.toArray⟩)=frA (l.set i q):=by
 unfold frA
 apply Array.ext'
 simp only[Array.toList_setIfInBounds]
 induction l generalizing i with
 |nil=>simp
 |cons a l ih=>
  cases i with
  |zero=>simp
  |succ i=>
   have:=ih i
   simp only[List.flatMap_cons,List.set_cons_succ,List.cons_append,List.nil_append,show(i+1)*2=i*2+1+1 by omega];rw[this]
theorem Zlj(n:Nat):madeCells #[.string ⟨#[]⟩,.string ⟨#[]⟩] (n*2)=frA (List.replicate n 0):=by
 apply Array.ext_getElem?
 intro i
 by_cases hi:i<n*2
 ·have h2:i/2<n:=by omega
  have hg:(List.replicate n (0:Rat))[i/2]?=some 0:=by rw[List.getElem?_replicate,if_pos h2]
  rcases Nat.mod_two_eq_zero_or_one i with h|h
  ·have e:(frA (List.replicate n 0))[i]?=some (.string ⟨(Qf 0).n.toArray⟩):=by
    have:=Zay hg
    rwa [show i/2*2=i by omega] at this
   rw[e,Vr];simp[madeCells,hi,h,Fr.zero]
  ·have e:(frA (List.replicate n 0))[i]?=some (.string ⟨(Qf 0).d.toArray⟩):=by
    have:=Zaz hg
    rwa [show i/2*2+1=i by omega] at this
   rw[e,Vr];simp[madeCells,hi,h,Fr.zero]
 ·rw[Array.getElem?_eq_none (by simp[madeCells];omega),Array.getElem?_eq_none];unfold frA;rw[List.size_toArray,QH Zfn,List.length_replicate];omega
end
end Go.Proofs.YtpnncoinlopndaaGreatDoor
