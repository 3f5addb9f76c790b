/- AL2, AL3. -/
import Derived.Test.YtlhmkgmojgnaaaaGreatDoorQGX38
import Derived.Test.YtlhmkgmojgnaaaaGreatDoorQGX39
import Derived.BigRegion
import Derived.Deep.DrawnRows
import Derived.Test.YtlhmkgmojgnaaaaGreatDoorShs
set_option maxRecDepth 20000
set_option maxHeartbeats 10000000
namespace Go.Proofs.YtlhmkgmojgnaaaaGreatDoor
open Go.Lib renaming hid→jq
open Go.RowKit Go.Shelf
section
attribute [local go_sem ↓] Go.wp_at_zero Go.wp_at_succ
theorem Kp.perm{w W:World}{bs bs':List (Nat×Array Value×TypeId)}(h:Kp w bs W)(hp:bs.Perm bs'):Kp w bs' W:=
 ⟨h.pow,h.bl,fun b hb=>h.own b (hp.mem_iff.2 hb),((hp.map (·.1)).pairwise_iff (fun h=>fun e=>h e.symm)).1 h.ord,fun b hb=>h.blk b (hp.mem_iff.2 hb)⟩
theorem Kp.three{w w1:World}(h:Kp w [] w1)(c1 c2 c3:Array Value)(T1 T2 T3:TypeId):
 Kp w [(w1.1.size+1+1,c3,T3),(w1.1.size+1,c2,T2),(w1.1.size,c1,T1)] (((w1.alloc (.cells c1 T1)).alloc (.cells c2 T2)).alloc (.cells c3 T3)).drew:=
 (((h.new _ rfl c1 T1).new _ (by simp) c2 T2).new _ (by simp) c3 T3).drew
section
variable {α:Type} (x y z:α)
theorem Zjv:[x,y,z].Perm [x,z,y]:=.cons x (.swap z y [])
theorem Zjw:[x,y,z].Perm [y,x,z]:=.swap y x [z]
theorem Zjx:[x,y,z].Perm [y,z,x]:=(List.Perm.swap y x [z]).trans (.cons y (.swap z x []))
theorem Zjy:[x,y,z].Perm [z,x,y]:=(List.Perm.cons x (.swap z y [])).trans (.swap z x [y])
theorem Zjz:[x,y,z].Perm [z,y,x]:=((List.Perm.cons x (.swap z y [])).trans (.swap z x [y])).trans (.cons z (.swap y x []))
end
def Qn(l:List Int)(n k:Nat):Array Value:=((List.range n).map fun j=>if j<k then Value.string ⟨(Qa (l.getD j 0)).toArray⟩ else .string ⟨#[]⟩).toArray
theorem Xw(l:List Int)(n k j:Nat)(hj:j<n):(Qn l n k)[j]?=some (if j<k then Value.string ⟨(Qa (l.getD j 0)).toArray⟩ else .string ⟨#[]⟩):=by
 simp[Qn,hj]
theorem ZbT(l:List Int)(n k:Nat)(hk:k<n):(Qn l n k)[k]?=some (.string ⟨#[]⟩):=by
 rw[Xw l n k k hk,if_neg (Nat.lt_irrefl k)]
theorem ZfG(l:List Int)(n k:Nat)(hk:k<n):(Qn l n (k+1))[k]?=some (.string ⟨(Qa (l.getD k 0)).toArray⟩):=by
 rw[Xw l n (k+1) k hk,if_pos (by omega)]
theorem ZbU(l:List Int)(n k:Nat)(hk:k<n):(Qn l n k).setIfInBounds k (.string ⟨(Qa (l.getD k 0)).toArray⟩)=Qn l n (k+1):=by
 apply Array.ext_getElem?
 intro i;rw[Array.getElem?_setIfInBounds]
 by_cases hi:i<n
 ·rw[Xw l n (k+1) i hi]
  by_cases e:k=i
  ·subst e;rw[if_pos rfl,if_pos (by simpa[Qn] using hk),if_pos (by omega)]
  ·rw[if_neg e,Xw l n k i hi]
   congr 1
   by_cases h2:i<k
   ·rw[if_pos h2,if_pos (by omega)]
   ·rw[if_neg h2,if_neg (by omega)]
 ·rw[if_neg (by omega),Array.getElem?_eq_none (by simp[Qn];omega),Array.getElem?_eq_none (by simp[Qn];omega)]
theorem Xx(l:List Int)(n:Nat):madeCells #[.string ⟨#[]⟩] n=Qn l n 0:=by
 apply Array.ext_getElem?
 intro i
 by_cases hi:i<n
 ·rw[Xw l n 0 i hi];simp[madeCells,hi,Nat.mod_one]
 ·rw[Array.getElem?_eq_none (by simp[madeCells];omega),Array.getElem?_eq_none (by simp[Qn];omega)]
def Yt(n k:Nat):Array Value:=((List.range n).map fun j=>if j<k then Value.int .i64 (j:Nat) else .int .i64 0).toArray
theorem Jj(n k j:Nat)(hj:j<n):(Yt n k)[j]?=some (if j<k then Value.int .i64 (j:Nat) else .int .i64 0):=by
 simp[Yt,hj]
theorem Zhm(n k:Nat)(hk:k<n):(Yt n k)[k]?=some (.int .i64 0):=by
 rw[Jj n k k hk,if_neg (Nat.lt_irrefl k)]
theorem Zhn(n k:Nat)(hk:k<n):(Yt n k).setIfInBounds k (.int .i64 (k:Nat))=Yt n (k+1):=by
 apply Array.ext_getElem?
 intro i;rw[Array.getElem?_setIfInBounds]
 by_cases hi:i<n
 ·rw[Jj n (k+1) i hi]
  by_cases e:k=i
  ·subst e;rw[if_pos rfl,if_pos (by simpa[Yt] using hk),if_pos (by omega)]
  ·rw[if_neg e,Jj n k i hi]
   congr 1
   by_cases h2:i<k
   ·rw[if_pos h2,if_pos (by omega)]
   ·rw[if_neg h2,if_neg (by omega)]
 ·rw[if_neg (by omega),Array.getElem?_eq_none (by simp[Yt];omega),Array.getElem?_eq_none (by simp[Yt];omega)]
theorem ZfH(n:Nat):madeCells #[.int .i64 0] n=Yt n 0:=by
 apply Array.ext_getElem?
 intro i
 by_cases hi:i<n
 ·rw[Jj n 0 i hi];simp[madeCells,hi,Nat.mod_one]
 ·rw[Array.getElem?_eq_none (by simp[madeCells];omega),Array.getElem?_eq_none (by simp[Yt];omega)]
theorem Zho(n:Nat):Yt n n=Vn (List.range n):=by
 unfold Yt Vn
 congr 1
 refine List.map_congr_left fun j hj=> ?_
 rw[if_pos (List.mem_range.1 hj)]
theorem Ziu(t:Int){ws:List (List UInt8)}{k:Nat}{x:List UInt8}(h:ws[k]?=some x):(QJ t (ws.map val)).getD k 0=(t*val x).fdiv (QM ws)/\(QO t (ws.map val)).getD k 0=(t*val x).fmod (QM ws):=by
 simp[QJ,QO,QM,List.getD,h]
theorem Zhp{t:Int}{ns:List Int}(h0:0<=t)(hn:∀x∈ns,0<=x)(hS:0<ns.sum)(k:Nat):0<=((QJ t ns).take k).sum/\((QJ t ns).take k).sum<=t:=by
 have hb:∀b∈QJ t ns,0<=b:=by
  intro b hb;obtain⟨x,hx,rfl⟩:=List.mem_map.1 hb
  exact Int.fdiv_nonneg (Int.mul_nonneg h0 (hn x hx)) (by omega)
 have h1:=Qx (l:=(QJ t ns).take k) (fun b hb'=>hb b (List.mem_of_mem_take hb'));have h2:=Qx (l:=(QJ t ns).drop k) (fun b hb'=>hb b (List.mem_of_mem_drop hb'));have h3:((QJ t ns).take k).sum+((QJ t ns).drop k).sum=(QJ t ns).sum:=by rw[<-QQ,List.take_append_drop]
 have h4:=YZ t hS;unfold Xp at h4;omega
theorem Zbm{l:List Int}{k:Nat}(hk:k<l.length):(l.take (k+1)).sum=(l.take k).sum+l.getD k 0:=by
 rw[List.take_succ_eq_append_getElem hk,QQ];simp[List.getD,hk]
def upA(l:List Int)(ups:List Nat)(n:Nat):Array Value:=((List.range n).map fun j=>Value.string ⟨(Qa (if j∈ups then l.getD j 0+1 else l.getD j 0)).toArray⟩).toArray
theorem Zct(l:List Int)(ups:List Nat)(n j:Nat)(hj:j<n):(upA l ups n)[j]?=some (Value.string ⟨(Qa (if j∈ups then l.getD j 0+1 else l.getD j 0)).toArray⟩):=by
 simp[upA,hj]
theorem Ziv(l:List Int)(n:Nat):Qn l n n=upA l [] n:=by
 unfold Qn upA
 congr 1
 refine List.map_congr_left fun j hj=> ?_
 rw[if_pos (List.mem_range.1 hj),if_neg (by simp)]
theorem Ziw(l:List Int)(ups:List Nat)(n i:Nat)(hi:i<n)(_hu:i ∉ ups):(upA l ups n).setIfInBounds i (.string ⟨(Qa (l.getD i 0+1)).toArray⟩)=upA l (ups++[i]) n:=by
 apply Array.ext_getElem?
 intro j;rw[Array.getElem?_setIfInBounds]
 by_cases hj:j<n
 ·rw[Zct l (ups++[i]) n j hj]
  by_cases e:i=j
  ·subst e;rw[if_pos rfl,if_pos (by simpa[upA] using hi),if_pos (by simp)]
  ·rw[if_neg e,Zct l ups n j hj]
   congr 3
   have:j∈ups++[i]↔j∈ups:=by simp;intro h;exact absurd h.symm e
   simp only[this]
 ·rw[if_neg (by omega),Array.getElem?_eq_none (by simp[upA];omega),Array.getElem?_eq_none (by simp[upA];omega)]
theorem Zix(t:Int)(ns:List Int)(n:Nat)(hn:ns.length=n):upA (QJ t ns) (upL t ns) n=Qn (Xi t ns) n n:=by
 unfold Qn upA
 congr 1
 refine List.map_congr_left fun j hj=> ?_
 have hj':=List.mem_range.1 hj;rw[if_pos hj'];have h1:=ZcM t ns j (by omega)
 have h2:(Xi t ns).getD j 0=if j∈upL t ns then(QJ t ns).getD j 0+1 else(QJ t ns).getD j 0:=by
  rw[List.getD,h1];simp only[Option.getD_some,QJ,List.getD,List.getElem?_map,List.getElem?_eq_getElem (show j<ns.length by omega),Option.map_some]
 rw[h2]
theorem ZiN:(Tryz.prog.info? 24).map (fun i=>(i.zero,i.size,i.bytes))=some (some (.string ⟨#[]⟩),1,16):=by kernel_rfl
theorem ZjA:(Tryz.prog.info? 3).map (fun i=>(i.zero,i.size,i.bytes))=some (some (.int .i64 0),1,8):=by kernel_rfl
theorem Zcu(t:List UInt8)(A:Option Addr)(n c:Nat)(ws:List (List UInt8))(w:World)(hp:Env w)(hs:VO w w.1.size A n ws)(ht:t.length<=1000)(hl:∀x∈ws,x.length<=1000)(hn0:0<n)(hn:n<=1000)(htc:t=Qa (val t))(h0:0<=val t)(hw0:∀x∈ws,0<=val x)(hS:0<QM ws):
 Calls Tryz.prog 72 #[S t,.slice A n c] w fun e w'=>∃P,e=.returned (.slice (some ⟨P,0,none⟩) n n)/\BlkB w' P (Qn (Xi (val t) (ws.map val)) n n) 24/\w.1.size<=P/\Below w.1.size w w':=by
 have HS:=jq hs;have HL:=jq hl;have H:=jq (Kp.start hp);have HWH:=jq (ZaY A n c ws w hp hs (fun x hx=>by have:=hl x hx;omega) (by omega));have hmk:=run_make_row' (P:=Tryz.prog) 33 24 (.string ⟨#[]⟩) 16 Tryz.underlying33 ZiN rfl .i64 .i64 n (by omega) (by omega);have hmi:=run_make_row' (P:=Tryz.prog) 138 3 (.int .i64 0) 8 Tryz.underlying138 ZjA rfl .i64 .i64 n (by omega) (by omega);rw[Xx []] at hmk;rw[ZfH] at hmi;clear hs hl hp;have HTC:=jq htc;clear htc;unfold S at*
 go_enter Tryz.func72,Tryz.ntmps72
 go_wp2_with fail
 refine HWH.out.mono ?_;rintro e w1 ⟨rfl,hb⟩;replace H:=jq (H.out.here hb);clear hb HWH;unfold S;go_upto_region 2 with (fail)
 go_cut [6,7] (fun s u wc=>∃P R X:Nat,s=.slice (some ⟨P,0,none⟩) n n/\u=.pointer (some ⟨X,0,none⟩)/\Hid (Kp w [(P,Qn [] n 0,24),(R,Qn [] n 0,24),(X,#[.slice (some ⟨R,0,none⟩) n n],33)] wc))
 case first=>
  go_region
  all_goals
   go_wp2_with fail
   go_meet
   have H3:=H.out.three
   first
    |exact⟨_,_,_,rfl,rfl,(H3 _ _ _ _ _ _).perm (Zjv _ _ _)⟩
    |exact⟨_,_,_,rfl,rfl,(H3 _ _ _ _ _ _).perm (Zjw _ _ _)⟩
    |exact⟨_,_,_,rfl,rfl,(H3 _ _ _ _ _ _).perm (Zjx _ _ _)⟩
    |exact⟨_,_,_,rfl,rfl,(H3 _ _ _ _ _ _).perm (Zjy _ _ _)⟩
    |exact⟨_,_,_,rfl,rfl,(H3 _ _ _ _ _ _).perm (Zjz _ _ _)⟩
    |exact⟨_,_,_,rfl,rfl,H3 _ _ _ _ _ _⟩
 case rest=>
 clear H hmk;obtain⟨P,R,X,rfl,rfl,HK⟩:=hcut
 obtain⟨O,hO⟩:∃O,O=wc.1.size:=⟨_,rfl⟩
 have HK2:=jq (HK.out.new O hO (Yt n 0) 3);clear HK;go_wp2_with fail
 rw[<-hO];generalize wc.alloc (.cells (Yt n 0) 3)=W0 at*;clear hO hmi;have hlen:(ws.map val).length=n:=by rw[List.length_map];exact HS.out.1.symm
 have hsn:0<(ws.map val).sum:=hS;have hn0s:∀x∈ws.map val,0<=x:=by intro x hx;obtain⟨y,hy,rfl⟩:=List.mem_map.1 hx;exact hw0 y hy
 have HPS:=jq (Zhp (t:=val t) h0 hn0s hsn);have HBA:=jq (fun k x h=>Ziu (val t) (ws:=ws) (k:=k) (x:=x) h);have HUP:=jq (Zix (val t) (ws.map val) n hlen);have HRB:=jq (Yh (val t) hsn);have hbl:(QJ (val t) (ws.map val)).length=n:=by simpa[QJ] using hlen
 have hrl:(QO (val t) (ws.map val)).length=n:=by simpa[QO] using hlen
 have HMU:=jq (fun k (hk:k<n)=>Zbm (l:=QJ (val t) (ws.map val)) (k:=k) (by omega));have HML:=jq (show Xp (val t) (ws.map val)=val t-((QJ (val t) (ws.map val)).take n).sum by unfold Xp;rw[List.take_of_length_le (by omega)])
 have HMC:=jq (show 0<=Xp (val t) (ws.map val)/\Xp (val t) (ws.map val)<=n by
  refine⟨YZ _ hsn,Int.le_trans (Yp _ hsn) ?_⟩;have:=List.countP_le_length (p:=fun r:Int=>decide (0<r)) (l:=QO (val t) (ws.map val))
  omega)
 have HUL:=jq (show upL (val t) (ws.map val)=(Yo (QO (val t) (ws.map val))).take (Xp (val t) (ws.map val)).toNat from rfl);have e1:=(Xx [] n).symm.trans (Xx (QJ (val t) (ws.map val)) n);have e2:=(Xx [] n).symm.trans (Xx (QO (val t) (ws.map val)) n);generalize Xp (val t) (ws.map val)=ms at*;generalize hps:Xi (val t) (ws.map val)=ps at*;have HPQ:=jq hps;clear hps;generalize upL (val t) (ws.map val)=ups at*;generalize QJ (val t) (ws.map val)=bs at*;generalize QO (val t) (ws.map val)=rs at*;obtain⟨K,hK⟩:∃K:Nat,K=1000:=⟨_,rfl⟩
 rw[<-hK] at ht;have htv:=Qu ht;have hsv:=ZcN (ws:=ws) (L:=K) (fun x hx=>by have:=HL.out x hx;omega);have hsl:=VX (ws:=ws) (L:=K) (fun x hx=>by have:=HL.out x hx;omega) (by have:=HS.out.1;omega);have HLP:=jq (fun k x (h:ws[k]?=some x)=>Qf (n:=val t*val x) (L:=K+K) (Qk htv (Qu (by have:=HL.out x (List.mem_of_getElem? h);omega))));have HLM:=jq (fun k=>Qf (n:=val t-(bs.take k).sum) (L:=K) (by have:=HPS.out k;omega));have HK3:=jq (show Kp w [(O,Yt n 0,3),(P,Qn bs n 0,24),(R,Qn rs n 0,24),(X,#[Value.slice (some ⟨R,0,none⟩) n n],33)] W0 by rw[<-e1,<-e2];exact HK2.out)
 have HLR:=jq (show ∀j,(Qa (rs.getD j 0)).length<=100000 from fun j=>by
  have hb:0<=rs.getD j 0/\rs.getD j 0<=QM ws:=by
   rw[List.getD_eq_getElem?_getD]
   cases hj:rs[j]? with
   |none=>exact⟨Int.le_refl _,Int.le_of_lt hS⟩
   |some r=>have:=HRB.out r (List.mem_of_getElem? hj);exact⟨this.1,Int.le_of_lt this.2⟩
  have h10:1000*10^K<10^(K+4):=by rw[Nat.pow_add];have:1<=10^K:=Nat.pow_pos (by omega);omega
  have hn2:ws.length*10^K<=1000*10^K:=Nat.mul_le_mul_right _ (by have:=HS.out.1;omega);have:=Qf (n:=rs.getD j 0) (L:=K+4) (by omega)
  omega)
 have HLB:=jq (show ∀q,q<n->(Qa (bs.getD q 0)).length<=100000 from fun q hq=>by
  have h1:=HPS.out q;have h2:=HPS.out (q+1);rw[HMU.out q hq] at h2;have:=Qf (n:=bs.getD q 0) (L:=K) (by omega)
  omega)
 have hK2:=hK;clear htv hsv e1 e2 HK2 h0 hw0 hsn hn0s
 go_loopw [9,10,11,30] (fun m _ _ i wr=>∃k:Nat,k<=n/\m=.string ⟨(Qa (val t-(bs.take k).sum)).toArray⟩/\i=.int .i64 k/\Hid (Kp w [(O,Yt n k,3),(P,Qn bs n k,24),(R,Qn rs n k,24),(X,#[Value.slice (some ⟨R,0,none⟩) n n],33)] wr)) (fun _ _ _ i _=>n-(intOf i).toNat)
 case atStart=>exact⟨0,Nat.zero_le _,(by rw[List.take_zero,List.sum_nil,Int.sub_zero,<-HTC.out]),rfl,HK3⟩
 case round=>
  clear HK3;obtain⟨k,hk,rfl,rfl,H⟩:=hrel
  by_cases hlt:k<n
  ·obtain⟨b,off,x,rfl,hb,hx,d0⟩:=(HS.out.below H.out.bl).st hlt
   have HX:=jq hx;clear hx;obtain⟨hb1,hb2⟩:=HBA.out k x HX.out
   have HMUL:=jq (fun W hp=>Xl t x W hp (by omega) (by have:=HL.out x (List.mem_of_getElem? HX.out);omega));have HDV:=jq (fun W hp=>(Ja (Qa (val t*val x)) (Qa (QM ws)) W hp (by have:=HLP.out k x HX.out;omega) (by omega)).mono fun e w' h=>Jb (by rw[Qd];omega) h);rw[Qd,Qd,<-hb1,<-hb2] at HDV
   have HSU:=jq (fun W hp=>ZeA (Qa (val t-(bs.take k).sum)) (Qa (bs.getD k 0)) W hp (by have:=HLM.out k;omega) (by
    have h1:=HPS.out k;have h2:=HPS.out (k+1);rw[HMU.out k hlt] at h2;have:=Qf (n:=bs.getD k 0) (L:=K) (by have:=Qu ht;omega)
    omega))
   rw[Qd,Qd,show val t-(bs.take k).sum-bs.getD k 0=val t-(bs.take (k+1)).sum by rw[HMU.out k hlt];omega] at HSU;clear hb1 hb2;generalize Qa (val t-(bs.take k).sum)=tm at*;generalize htm2:Qa (val t-(bs.take (k+1)).sum)=tm2 at*;have HTM2:=jq htm2;clear htm2;generalize Qa (val t*val x)=tp at*;have HPA:=jq (ZbU bs n k hlt);have HRA:=jq (ZbU rs n k hlt);have HIA:=jq (Zhn n k hlt);have HPO2:=jq (ZfG bs n k hlt);have HPN:=jq (ZbT bs n k hlt);have HRN:=jq (ZbT rs n k hlt);have HIN:=jq (Zhm n k hlt);generalize Qa (bs.getD k 0)=tb at*;generalize Qa (rs.getD k 0)=tr at*;generalize Qa (QM ws)=tsum at*;unfold S at HMUL HDV HSU;have nPR:=H.out.ne 1 2 rfl rfl (by decide);have nRP:=H.out.ne 2 1 rfl rfl (by decide);have i1:(0:Int)<=(k:Int):=by omega
   have i2:(k:Int)<(n:Int):=by omega
   go_upto_region 8 with (fail)
   go_cut [] (fun w9=>Hid (Kp w [(O,Yt n k,3),(P,Qn bs n (k+1),24),(R,Qn rs n (k+1),24),(X,#[Value.slice (some ⟨R,0,none⟩) n n],33)] w9))
   case first=>
    have x0:wr.cell? ⟨X,0,none⟩=some (.slice (some ⟨R,0,none⟩) n n):=H.out.c 3 0 rfl rfl;clear d0 HS HL HTC HPS HMU HML HUP HRB HUL HBA HLP HLM hsl ht hK hK2 HX HMC HSU HPO2 HIN HIA hb hlen hbl hrl hS hn hn0 hk hlt
    go_region_held3 (fun w'=>w'.cell? ⟨X,0,none⟩=some (.slice (some ⟨R,0,none⟩) n n))
     (first
       |with_reducible exact k2
       |with_reducible exact k3
       |with_reducible exact k4 _
       |with_reducible exact k5 _
       |with_reducible exact k6 _ _
       |go_keep)
     (first
       |(go_at_call 61;refine(HMUL.out _ H.out.drew.po).mono ?_;rintro e w2 ⟨rfl,hb2⟩;unfold S;have hz:Below wr.1.size wr w2:=(Below.refl _ wr).drew.trans hb2;have k2:w2.cell? ⟨X,0,none⟩=some (.slice (some ⟨R,0,none⟩) n n):=(H.out.here hz).c 3 0 rfl rfl)
       |(go_at_call 36;refine(HDV.out _ (H.out.here hz).po).mono ?_;rintro e w3 ⟨rfl,hb3⟩;have hz2:Below wr.1.size wr w3:=hz.trans (hb3.mono hz.size);have g1:=(H.out.here hz2).f 1 k rfl;have g2:=(H.out.here hz2).f 2 k rfl;have p1:=(H.out.here hz2).c 1 k rfl HPN.out;have p2:=(H.out.here hz2).c 2 k rfl HRN.out;have k3:w3.cell? ⟨X,0,none⟩=some (.slice (some ⟨R,0,none⟩) n n):=(H.out.here hz2).c 3 0 rfl rfl;have k4:∀v,(w3.setCell ⟨P,k,none⟩ v).cell? ⟨X,0,none⟩=some (.slice (some ⟨R,0,none⟩) n n):=(fun v=>((H.out.here hz2).set 1 k rfl v).c 3 0 rfl rfl);have k5:∀v,(w3.setCell ⟨R,k,none⟩ v).cell? ⟨X,0,none⟩=some (.slice (some ⟨R,0,none⟩) n n):=(fun v=>((H.out.here hz2).set 2 k rfl v).c 3 0 rfl rfl);have k6:∀u v,((w3.setCell ⟨P,k,none⟩ u).setCell ⟨R,k,none⟩ v).cell? ⟨X,0,none⟩=some (.slice (some ⟨R,0,none⟩) n n):=(fun u v=>(((H.out.here hz2).set 1 k rfl u).set 2 k rfl v).c 3 0 rfl rfl)))
    all_goals
     go_wp2_with fail
     go_meet
     first
      |(have h9:Kp w [(O,Yt n k,3),(P,(Qn bs n k).setIfInBounds k (.string ⟨tb.toArray⟩),24),(R,(Qn rs n k).setIfInBounds k (.string ⟨tr.toArray⟩),24),(X,#[Value.slice (some ⟨R,0,none⟩) n n],33)] _:=((H.out.here hz2).set 1 k rfl (.string ⟨tb.toArray⟩)).set 2 k rfl (.string ⟨tr.toArray⟩)
        rw[HPA.out,HRA.out] at h9;exact h9)
      |(have h9:Kp w [(O,Yt n k,3),(P,(Qn bs n k).setIfInBounds k (.string ⟨tb.toArray⟩),24),(R,(Qn rs n k).setIfInBounds k (.string ⟨tr.toArray⟩),24),(X,#[Value.slice (some ⟨R,0,none⟩) n n],33)] _:=((H.out.here hz2).set 2 k rfl (.string ⟨tr.toArray⟩)).set 1 k rfl (.string ⟨tb.toArray⟩)
        rw[HPA.out,HRA.out] at h9;exact h9)
   case rest=>
   clear H HMUL HDV HPA HRA HPN HRN nPR nRP d0 HX;have H:=hcut;clear hcut;have p1:wc.cell? ⟨P,k,none⟩=some (.string ⟨tb.toArray⟩):=H.out.c 1 k rfl HPO2.out;go_wp2_with fail
   refine(HSU.out _ H.out.po).mono ?_;rintro e w10 ⟨rfl,hb10⟩;replace H:=jq (H.out.here hb10);clear hb10 p1;have q1:w10.cell? ⟨O,k,none⟩=some (.int .i64 0):=H.out.c 0 k rfl HIN.out;have g1:=H.out.f 0 k rfl
   have H9:=jq (show Kp w [(O,Yt n (k+1),3),(P,Qn bs n (k+1),24),(R,Qn rs n (k+1),24),(X,#[Value.slice (some ⟨R,0,none⟩) n n],33)] (w10.setCell ⟨O,k,none⟩ (.int .i64 (k:Nat))) by
    have h9:Kp w [(O,(Yt n k).setIfInBounds k (.int .i64 (k:Nat)),3),(P,Qn bs n (k+1),24),(R,Qn rs n (k+1),24),(X,#[Value.slice (some ⟨R,0,none⟩) n n],33)] _:=H.out.set 0 k rfl (.int .i64 (k:Nat));rw[HIA.out] at h9;exact h9)
   go_wp2_with fail
   go_roundw
   case rel=>exact⟨k+1,by omega,(by rw[HTM2.out];rfl),by go_num,H9⟩
   case measure=>simp[intOf];omega
  ·obtain rfl:k=n:=by omega
   clear HMU HBA HLP HLM HPS;have hO:=H.out.at_ 0 rfl;rw[Zho] at hO;have hX:=H.out.c 3 0 rfl rfl;have hRR:=H.out.at_ 2 rfl
   have HSO:=jq (show Calls Tryz.prog 95 #[.slice (some ⟨O,0,none⟩) k k,.func (.func 96) #[] #[.pointer (some ⟨X,0,none⟩)]] wr fun e w'=>e=.returned (.tuple #[])/\wr.grownBy w' (some O)/\BlkB w' O (Vn (Yo rs)) 3 from
    Zhk Tryz.sortI 96 #[.pointer (some ⟨X,0,none⟩)] rs k O k wr 3 hrl hn0 (by omega) (enters_of Tryz.func96 (by kernel_rfl) rfl) hO
     (fun W' hg x y hx hy=>Zhl rs k R X x y hx hy (by omega) W'
       ((World.cell?_of_block (hg.block X (H.out.lt 3 rfl) (fun e=>H.out.ne 3 0 rfl rfl (by decide) (by injection e)))).trans hX)
       (fun j hj=>(World.cell?_of_block (hg.block R (H.out.lt 2 rfl) (fun e=>H.out.ne 2 0 rfl rfl (by decide) (by injection e)))).trans (hRR.cell j (by rw[Xw rs k k j hj,if_pos hj])))
       HLR.out))
   clear hO hX hRR;obtain⟨m,hm⟩:∃m:Nat,ms=(m:Int):=⟨ms.toNat,by have:=HMC.out;omega⟩
   have hmk:m<=k:=by have:=HMC.out;omega
   have HSM:=jq (ZfF m (by omega));rw[<-HML.out,hm];rw[hm,Int.toNat_natCast] at HUL;have HOL:=jq (show(Yo rs).length=k by rw[JN];exact hrl);have HON:=jq (ZaA rs);have HOM:=jq (show ∀q∈Yo rs,q<k from fun q hq=>by have:=Zf4.1 hq;omega);clear HML HMC hm;generalize Yo rs=os at*;generalize Qa (m:Int)=tm at*;unfold S at HSM;go_wp2_with fail
   refine HSO.out.mono ?_;rintro e w2 ⟨rfl,hg2,hB2⟩;have H2:=jq (H.out.grown (i:=0) hg2 rfl hB2);clear hg2 hB2 H HSO;go_wp2_with fail
   refine(HSM.out _ H2.out.pw).mono ?_;rintro e w3 ⟨rfl,hb3⟩;have H3:=jq (H2.out.here hb3);clear hb3 H2 HSM;have i1:(0:Int)<=(m:Int):=by omega
   have i2:(m:Int)<=(k:Int):=by omega
   have HK3:=jq (show Kp w [(O,Vn os,3),(P,upA bs (os.take 0) k,24),(R,Qn rs k k,24),(X,#[Value.slice (some ⟨R,0,none⟩) k k],33)] w3 by
    rw[List.take_zero,<-Ziv];exact H3.out)
   have HIV:=jq (show ∀(j q:Nat),os[j]?=some q->(Vn os)[j]?=some (Value.int .i64 (q:Nat)) from fun j q h=>by simp[Vn,h]);clear H3 HTC HL HS HRB HLR hS hlen hrl hsl ht hK hK2;go_wp2_with fail
   go_loopw [15,73] (fun _ j wr=>∃q:Nat,q<=m/\j=.int .i64 q/\Hid (Kp w [(O,Vn os,3),(P,upA bs (os.take q) k,24),(R,Qn rs k k,24),(X,#[Value.slice (some ⟨R,0,none⟩) k k],33)] wr)) (fun _ j _=>m-(intOf j).toNat)
   case atStart=>exact⟨0,Nat.zero_le _,rfl,HK3⟩
   case round=>
    clear HK3;obtain⟨q,hq,rfl,H⟩:=hrel
    by_cases hlt:q<m
    ·have hqo:q<os.length:=by have:=HOL.out;omega
     have hoq:os[q]?=some os[q]:=List.getElem?_eq_getElem hqo;have hqk:os[q]<k:=HOM.out _ (List.getElem_mem hqo)
     have hnt:os[q] ∉ os.take q:=fun hm=>by
      obtain⟨j,hj,e⟩:=List.mem_take_iff_getElem.1 hm
      exact(List.pairwise_iff_getElem.1 HON.out) j q (by omega) hqo (by omega) (by simpa using e)
     have HTS:=jq (show os.take (q+1)=os.take q++[os[q]] from List.take_succ_eq_append_getElem hqo);have hcO:=H.out.c 0 q rfl (HIV.out q _ hoq);generalize os[q]=z at*;have HG:=jq (show(upA bs (os.take q) k)[z]?=some (.string ⟨(Qa (bs.getD z 0)).toArray⟩) by rw[Zct bs (os.take q) k z hqk,if_neg hnt]);have HSE:=jq (Ziw bs (os.take q) k z hqk hnt);rw[<-HTS.out] at HSE;have HAD:=jq (fun W hp=>Yk (Qa (bs.getD z 0)) [49] W hp (HLB.out z hqk) (by simp));rw[Qd,YJ] at HAD;have hcP:=H.out.c 1 z rfl HG.out;unfold S at HAD;generalize Qa (bs.getD z 0)=tz at*;generalize Qa (bs.getD z 0+1)=tz1 at*;have z1:(0:Int)<=(z:Int):=by omega
     have z2:(z:Int)<(k:Int):=by omega
     clear hoq hnt HTS;go_wp2_with fail
     refine(HAD.out _ H.out.po).mono ?_;rintro e w4 ⟨rfl,hb4⟩;unfold S;replace H:=jq (H.out.here hb4);clear hb4 hcO hcP;have g1:=H.out.f 1 z rfl;have hcP:=H.out.c 1 z rfl HG.out
     have H9:=jq (show Kp w [(O,Vn os,3),(P,upA bs (os.take (q+1)) k,24),(R,Qn rs k k,24),(X,#[Value.slice (some ⟨R,0,none⟩) k k],33)] (w4.setCell ⟨P,z,none⟩ (.string ⟨tz1.toArray⟩)) by
      have h9:Kp w [(O,Vn os,3),(P,(upA bs (os.take q) k).setIfInBounds z (.string ⟨tz1.toArray⟩),24),(R,Qn rs k k,24),(X,#[Value.slice (some ⟨R,0,none⟩) k k],33)] _:=H.out.set 1 z rfl (.string ⟨tz1.toArray⟩);rw[HSE.out] at h9;exact h9)
     go_wp2_with fail
     go_roundw
     case rel=>exact⟨q+1,by omega,by go_num,H9⟩
     case measure=>simp[intOf];omega
    ·obtain rfl:q=m:=by omega
     have hF:=H.out.at_ 1 rfl;rw[<-HUL.out,HUP.out] at hF;have HF:=jq hF;have hold:=H.out.old 1 rfl;clear hF;go_wp2_with fail
     first|go_ret|skip
     exact⟨P,rfl,by rw[HPQ.out];exact HF.out,hold,H.out.bl⟩
end
section
def Zcv(l:List Int)(n:Nat)(w:World)(e:Ending)(w':World):Prop:=∃P,e=.returned (.slice (some ⟨P,0,none⟩) n n)/\BlkB w' P (Qn l n n) 24/\w.1.size<=P/\Below w.1.size w w'
def Jk(l:List Int)(n:Nat)(r:Int)(w:World)(e:Ending)(w':World):Prop:=∃P,e=.returned (.tuple #[.slice (some ⟨P,0,none⟩) n n,.int .i64 r])/\BlkB w' P (Qn l n n) 24/\w.1.size<=P/\Below w.1.size w w'
theorem Zdx(t:List UInt8)(A:Option Addr)(n c:Nat)(ws:List (List UInt8))(w:World)(hp:Env w)(hs:VO w w.1.size A n ws)(ht:t.length<=1000)(hl:∀x∈ws,x.length<=1000)(hn0:0<n)(hn:n<=1000)(htc:t=Qa (val t))(h0:0<=val t)(hw0:∀x∈ws,0<=val x)(hS:0<QM ws):
 Calls Tryz.prog 42 #[S t,.slice A n c] w (Zcv (Xi (val t) (ws.map val)) n w):=by
 have HNG:=jq (VF t (by omega));rw[show decide (val t<0)=false by simpa using h0] at HNG;have HPS:=jq (fun W (hb:Below w.1.size w W)=>Zcu t A n c ws W (hp.here hb) (hs.here hb) ht hl hn0 hn htc h0 hw0 hS);have HPO:=jq (show ∀e w',Zcv (Xi (val t) (ws.map val)) n w e w'=∃P,e=.returned (.slice (some ⟨P,0,none⟩) n n)/\BlkB w' P (Qn (Xi (val t) (ws.map val)) n n) 24/\w.1.size<=P/\Below w.1.size w w' from fun _ _=>rfl);generalize Zcv (Xi (val t) (ws.map val)) n w=post at*;have H:=jq (Kp.start hp);generalize Xi (val t) (ws.map val)=ps at*;clear hp hs ht hl hn0 hn htc h0 hw0 hS;unfold S at*
 go_enter Tryz.func42,Tryz.ntmps42
 go_wp2_with fail
 refine(HNG.out _ H.out.pw).mono ?_;rintro e w1 ⟨rfl,hb⟩;replace H:=jq (H.out.here hb);clear hb;go_wp2_with fail
 refine(HPS.out _ H.out.bl).mono ?_;rintro e w2 ⟨P,rfl,hB,hP,hb⟩;have HB:=jq hB;clear hB;go_wp2_with fail
 first|go_ret|skip
 rw[HPO.out];exact⟨P,rfl,HB.out,by have:=H.out.bl.size;omega,(H.out.here hb).bl⟩
theorem ZfI(t:List UInt8)(A:Option Addr)(n c:Nat)(ws:List (List UInt8))(w:World)(hp:Env w)(hs:VO w w.1.size A n ws)(ht:t.length<=1000)(hl:∀x∈ws,x.length<=1000)(hn0:0<n)(hn:n<=1000)(htc:t=Qa (val t))(h0:0<=val t)(hw0:∀x∈ws,0<=val x)(hS:0<QM ws)(hc:QE t ws=0):
 Calls Tryz.prog 18 #[S t,.slice A n c] w (Jk (Xi (val t) (ws.map val)) n 0 w):=by
 have HCK:=jq (ZaZ t A n c ws w hp hs (by omega) (fun x hx=>by have:=hl x hx;omega) (by omega));rw[hc] at HCK;have HPS:=jq (fun W (hb:Below w.1.size w W)=>Zdx t A n c ws W (hp.here hb) (hs.here hb) ht hl hn0 hn htc h0 hw0 hS);have HPO:=jq (show ∀e w',Jk (Xi (val t) (ws.map val)) n 0 w e w'=∃P,e=.returned (.tuple #[.slice (some ⟨P,0,none⟩) n n,.int .i64 0])/\BlkB w' P (Qn (Xi (val t) (ws.map val)) n n) 24/\w.1.size<=P/\Below w.1.size w w' from fun _ _=>rfl);generalize Jk (Xi (val t) (ws.map val)) n 0 w=post at*;have H:=jq (Kp.start hp);generalize Xi (val t) (ws.map val)=ps at*;clear hp hs ht hl hn0 hn htc h0 hw0 hS hc;unfold S at*
 go_enter Tryz.func18,Tryz.ntmps18
 go_wp2_with fail
 refine HCK.out.mono ?_;rintro e w1 ⟨rfl,hb⟩;replace H:=jq (H.out.here hb);clear hb;go_wp2_with fail
 refine(HPS.out _ H.out.bl).mono ?_;rintro e w2 ⟨P,rfl,hB,hP,hb⟩;have HB:=jq hB;clear hB;go_wp2_with fail
 first|go_ret2|skip
 rw[HPO.out];exact⟨P,rfl,HB.out,by have:=H.out.bl.size;omega,(H.out.here hb).bl⟩
theorem ZfJ(t:List UInt8)(A:Option Addr)(n c:Nat)(ws:List (List UInt8))(w:World)(hp:Env w)(hs:VO w w.1.size A n ws)(ht:t.length<=1000)(hl:∀x∈ws,x.length<=1000)(hn:n<=1000000)(hc:QE t ws≠0):
 Calls Tryz.prog 18 #[S t,.slice A n c] w fun e w'=>e=.returned (.tuple #[.slice none 0 0,.int .i64 (QE t ws)])/\Below w.1.size w w':=by
 have HCK:=jq (ZaZ t A n c ws w hp hs (by omega) (fun x hx=>by have:=hl x hx;omega) (by omega));generalize QE t ws=r at*;have hr:(r !=0)=true:=by simpa using hc
 clear hp hs ht hl hn hc;unfold S at*
 go_enter Tryz.func18,Tryz.ntmps18
 go_wp2_with fail
 refine HCK.out.mono ?_;rintro e w1 ⟨rfl,hb⟩;go_wp2_with fail
 first|go_ret2|skip
 exact⟨rfl,hb⟩
end
end Go.Proofs.YtlhmkgmojgnaaaaGreatDoor
