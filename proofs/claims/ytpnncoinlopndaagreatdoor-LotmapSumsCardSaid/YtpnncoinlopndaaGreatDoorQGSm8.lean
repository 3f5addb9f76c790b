/- AL2, AL3, Lp1, Mq1, Mq2, Mq3. -/
import Derived.Test.YtpnncoinlopndaaGreatDoorQGSm7
import Derived.BigRegion
import Derived.Deep.DrawnRows
import Derived.Test.YtpnncoinlopndaaGreatDoorShs
set_option maxRecDepth 20000
set_option maxHeartbeats 10000000
namespace Go.Proofs.YtpnncoinlopndaaGreatDoor
open Go.Lib renaming hid→hdz
section
open Go.RowKit Go.Shelf
attribute [local go_sem ↓] Go.wp_at_zero Go.wp_at_succ
theorem Kp.perm{w W:World}{bs bs':List (Nat×Array Value×TypeId)}(h:Kp w bs W)(hp:bs.Perm bs'):Kp w bs' W:=
 ⟨h.pow,h.bl,fun b hb=>h.own b (hp.mem_iff.2 hb),((hp.map (·.1)).pairwise_iff (fun h=>fun e=>h e.symm)).1 h.ord,fun b hb=>h.blk b (hp.mem_iff.2 hb)⟩
theorem Kp.three{w w1:World}(h:Kp w [] w1)(c1 c2 c3:Array Value)(T1 T2 T3:TypeId):
 Kp w [(w1.heap.size+1+1,c3,T3),(w1.heap.size+1,c2,T2),(w1.heap.size,c1,T1)] (((w1.alloc (.cells c1 T1)).alloc (.cells c2 T2)).alloc (.cells c3 T3)).drew:=
 (((h.new _ rfl c1 T1).new _ (by simp) c2 T2).new _ (by simp) c3 T3).drew
section
variable {α:Type} (x y z:α)
theorem ZnO:[x,y,z].Perm [x,z,y]:=.cons x (.swap z y [])
theorem ZnP:[x,y,z].Perm [y,x,z]:=.swap y x [z]
theorem ZnQ:[x,y,z].Perm [y,z,x]:=(List.Perm.swap y x [z]).trans (.cons y (.swap z x []))
theorem ZnR:[x,y,z].Perm [z,x,y]:=(List.Perm.cons x (.swap z y [])).trans (.swap z x [y])
theorem ZnS:[x,y,z].Perm [z,y,x]:=((List.Perm.cons x (.swap z y [])).trans (.swap z x [y])).trans (.cons z (.swap y x []))
end
def partA(l:List Int)(n k:Nat):Array Value:=((List.range n).map fun j=>if j<k then Value.string ⟨(txtL (l.getD j 0)).toArray⟩ else .string ⟨#[]⟩).toArray
theorem Zaq(l:List Int)(n k j:Nat)(hj:j<n):(partA l n k)[j]?=some (if j<k then Value.string ⟨(txtL (l.getD j 0)).toArray⟩ else .string ⟨#[]⟩):=by
 simp[partA,hj]
theorem Zf4(l:List Int)(n k:Nat)(hk:k<n):(partA l n k)[k]?=some (.string ⟨#[]⟩):=by
 rw[Zaq l n k k hk,if_neg (Nat.lt_irrefl k)]
theorem Zjn(l:List Int)(n k:Nat)(hk:k<n):(partA l n (k+1))[k]?=some (.string ⟨(txtL (l.getD k 0)).toArray⟩):=by
 rw[Zaq l n (k+1) k hk,if_pos (by omega)]
theorem Zf5(l:List Int)(n k:Nat)(hk:k<n):(partA l n k).setIfInBounds k (.string ⟨(txtL (l.getD k 0)).toArray⟩)=partA l n (k+1):=by
 apply Array.ext_getElem?
 intro i
 rw[Array.getElem?_setIfInBounds]
 by_cases hi:i<n
 ·rw[Zaq l n (k+1) i hi]
  by_cases e:k=i
  ·subst e
   rw[if_pos rfl,if_pos (by simpa[partA] using hk),if_pos (by omega)]
  ·rw[if_neg e,Zaq l n k i hi]
   congr 1
   by_cases h2:i<k
   ·rw[if_pos h2,if_pos (by omega)]
   ·rw[if_neg h2,if_neg (by omega)]
 ·rw[if_neg (by omega),Array.getElem?_eq_none (by simp[partA];omega),Array.getElem?_eq_none (by simp[partA];omega)]
theorem Za0(l:List Int)(n:Nat):madeCells #[.string ⟨#[]⟩] n=partA l n 0:=by
 apply Array.ext_getElem?
 intro i
 by_cases hi:i<n
 ·rw[Zaq l n 0 i hi]
  simp[madeCells,hi,Nat.mod_one]
 ·rw[Array.getElem?_eq_none (by simp[madeCells];omega),Array.getElem?_eq_none (by simp[partA];omega)]
def idxA(n k:Nat):Array Value:=((List.range n).map fun j=>if j<k then Value.int .i64 (j:Nat) else .int .i64 0).toArray
theorem ZdQ(n k j:Nat)(hj:j<n):(idxA n k)[j]?=some (if j<k then Value.int .i64 (j:Nat) else .int .i64 0):=by
 simp[idxA,hj]
theorem ZkU(n k:Nat)(hk:k<n):(idxA n k)[k]?=some (.int .i64 0):=by
 rw[ZdQ n k k hk,if_neg (Nat.lt_irrefl k)]
theorem ZkV(n k:Nat)(hk:k<n):(idxA n k).setIfInBounds k (.int .i64 (k:Nat))=idxA n (k+1):=by
 apply Array.ext_getElem?
 intro i
 rw[Array.getElem?_setIfInBounds]
 by_cases hi:i<n
 ·rw[ZdQ n (k+1) i hi]
  by_cases e:k=i
  ·subst e
   rw[if_pos rfl,if_pos (by simpa[idxA] using hk),if_pos (by omega)]
  ·rw[if_neg e,ZdQ n k i hi]
   congr 1
   by_cases h2:i<k
   ·rw[if_pos h2,if_pos (by omega)]
   ·rw[if_neg h2,if_neg (by omega)]
 ·rw[if_neg (by omega),Array.getElem?_eq_none (by simp[idxA];omega),Array.getElem?_eq_none (by simp[idxA];omega)]
theorem Zjo(n:Nat):madeCells #[.int .i64 0] n=idxA n 0:=by
 apply Array.ext_getElem?
 intro i
 by_cases hi:i<n
 ·rw[ZdQ n 0 i hi]
  simp[madeCells,hi,Nat.mod_one]
 ·rw[Array.getElem?_eq_none (by simp[madeCells];omega),Array.getElem?_eq_none (by simp[idxA];omega)]
theorem ZkW(n:Nat):idxA n n=idxV (List.range n):=by
 unfold idxA idxV
 congr 1
 refine List.map_congr_left fun j hj=> ?_
 rw[if_pos (List.mem_range.1 hj)]
theorem Zmw(t:Int){ws:List (List UInt8)}{k:Nat}{x:List UInt8}(h:ws[k]?=some x):(baseL t (ws.map val)).getD k 0=(t*val x).fdiv (sumV ws)∧(restL t (ws.map val)).getD k 0=(t*val x).fmod (sumV ws):=by
 simp[baseL,restL,sumV,List.getD,h]
theorem ZkX{t:Int}{ns:List Int}(h0:0≤t)(hn:∀x∈ns,0≤x)(hS:0<ns.sum)(k:Nat):0≤((baseL t ns).take k).sum∧((baseL t ns).take k).sum≤t:=by
 have hb:∀b∈baseL t ns,0≤b:=by
  intro b hb
  obtain⟨x,hx,rfl⟩:=List.mem_map.1 hb
  exact Int.fdiv_nonneg (Int.mul_nonneg h0 (hn x hx)) (by omega)
 have h1:=Zas (l:=(baseL t ns).take k) (fun b hb'=>hb b (List.mem_of_mem_take hb'))
 have h2:=Zas (l:=(baseL t ns).drop k) (fun b hb'=>hb b (List.mem_of_mem_drop hb'))
 have h3:((baseL t ns).take k).sum+((baseL t ns).drop k).sum=(baseL t ns).sum:=by rw[←ZaE,List.take_append_drop]
 have h4:=Zbl t hS
 unfold missL at h4
 omega
theorem Zfu{l:List Int}{k:Nat}(hk:k<l.length):(l.take (k+1)).sum=(l.take k).sum+l.getD k 0:=by
 rw[List.take_succ_eq_append_getElem hk,ZaE]
 simp[List.getD,hk]
def upA(l:List Int)(ups:List Nat)(n:Nat):Array Value:=((List.range n).map fun j=>Value.string ⟨(txtL (if j∈ups then l.getD j 0+1 else l.getD j 0)).toArray⟩).toArray
theorem ZgQ(l:List Int)(ups:List Nat)(n j:Nat)(hj:j<n):(upA l ups n)[j]?=some (Value.string ⟨(txtL (if j∈ups then l.getD j 0+1 else l.getD j 0)).toArray⟩):=by
 simp[upA,hj]
theorem Zmx(l:List Int)(n:Nat):partA l n n=upA l [] n:=by
 unfold partA upA
 congr 1
 refine List.map_congr_left fun j hj=> ?_
 rw[if_pos (List.mem_range.1 hj),if_neg (by simp)]
theorem Zmy(l:List Int)(ups:List Nat)(n i:Nat)(hi:i<n)(_hu:i ∉ ups):(upA l ups n).setIfInBounds i (.string ⟨(txtL (l.getD i 0+1)).toArray⟩)=upA l (ups++[i]) n:=by
 apply Array.ext_getElem?
 intro j
 rw[Array.getElem?_setIfInBounds]
 by_cases hj:j<n
 ·rw[ZgQ l (ups++[i]) n j hj]
  by_cases e:i=j
  ·subst e
   rw[if_pos rfl,if_pos (by simpa[upA] using hi),if_pos (by simp)]
  ·rw[if_neg e,ZgQ l ups n j hj]
   congr 3
   have:j∈ups++[i]↔j∈ups:=by simp;intro h;exact absurd h.symm e
   simp only[this]
 ·rw[if_neg (by omega),Array.getElem?_eq_none (by simp[upA];omega),Array.getElem?_eq_none (by simp[upA];omega)]
theorem Zmz(t:Int)(ns:List Int)(n:Nat)(hn:ns.length=n):upA (baseL t ns) (upL t ns) n=partA (posL t ns) n n:=by
 unfold partA upA
 congr 1
 refine List.map_congr_left fun j hj=> ?_
 have hj':=List.mem_range.1 hj
 rw[if_pos hj']
 have h1:=ZhD t ns j (by omega)
 have h2:(posL t ns).getD j 0=if j∈upL t ns then(baseL t ns).getD j 0+1 else(baseL t ns).getD j 0:=by
  rw[List.getD,h1]
  simp only[Option.getD_some,baseL,List.getD,List.getElem?_map,List.getElem?_eq_getElem (show j<ns.length by omega),Option.map_some]
 rw[h2]
theorem ZkY:(Tryz.prog.info? 24).map (fun i=>(i.zero,i.size,i.bytes))=some (some (.string ⟨#[]⟩),1,16):=by kernel_rfl
theorem ZnT:(Tryz.prog.info? 3).map (fun i=>(i.zero,i.size,i.bytes))=some (some (.int .i64 0),1,8):=by kernel_rfl
theorem Zf6(t:List UInt8)(A:Option Addr)(n c:Nat)(ws:List (List UInt8))(w:World)(hp:Env w)(hs:Strs w w.heap.size A n ws)(ht:t.length≤1000)(hl:∀x∈ws,x.length≤1000)(hn0:0<n)(hn:n≤1000)(htc:t=txtL (val t))(h0:0≤val t)(hw0:∀x∈ws,0≤val x)(hS:0<sumV ws):
 Calls Tryz.prog 205 #[S t,.slice A n c] w fun e w'=>∃P,e=.returned (.slice (some ⟨P,0,none⟩) n n)∧BlkB w' P (partA (posL (val t) (ws.map val)) n n) 24∧w.heap.size≤P∧Below w.heap.size w w':=by
 have HS:=hdz hs
 have HL:=hdz hl
 have H:=hdz (Kp.start hp)
 have HWH:=hdz (ZeV A n c ws w hp hs (fun x hx=>by have:=hl x hx;omega) (by omega))
 have hmk:=run_make_row' (P:=Tryz.prog) 58 24 (.string ⟨#[]⟩) 16 Tryz.underlying58 ZkY rfl .i64 .i64 n (by omega) (by omega)
 have hmi:=run_make_row' (P:=Tryz.prog) 124 3 (.int .i64 0) 8 Tryz.underlying124 ZnT rfl .i64 .i64 n (by omega) (by omega)
 rw[Za0 []] at hmk
 rw[Zjo] at hmi
 clear hs hl hp
 have HTC:=hdz htc
 clear htc
 unfold S at*
 go_enter Tryz.func205,Tryz.ntmps205
 go_wp2_with fail
 refine HWH.out.mono ?_
 rintro e w1 ⟨rfl,hb⟩
 replace H:=hdz (H.out.here hb)
 clear hb HWH
 unfold S
 go_upto_region 2 with (fail)
 go_cut [6,7] (fun s u wc=>∃P R X:Nat,s=.slice (some ⟨P,0,none⟩) n n∧u=.pointer (some ⟨X,0,none⟩)∧Hid (Kp w [(P,partA [] n 0,24),(R,partA [] n 0,24),(X,#[.slice (some ⟨R,0,none⟩) n n],58)] wc))
 case first=>
  go_region
  all_goals
   go_wp2_with fail
   go_meet
   have H3:=H.out.three
   first
    |exact⟨_,_,_,rfl,rfl,(H3 _ _ _ _ _ _).perm (ZnO _ _ _)⟩
    |exact⟨_,_,_,rfl,rfl,(H3 _ _ _ _ _ _).perm (ZnP _ _ _)⟩
    |exact⟨_,_,_,rfl,rfl,(H3 _ _ _ _ _ _).perm (ZnQ _ _ _)⟩
    |exact⟨_,_,_,rfl,rfl,(H3 _ _ _ _ _ _).perm (ZnR _ _ _)⟩
    |exact⟨_,_,_,rfl,rfl,(H3 _ _ _ _ _ _).perm (ZnS _ _ _)⟩
    |exact⟨_,_,_,rfl,rfl,H3 _ _ _ _ _ _⟩
 case rest=>
 clear H hmk
 obtain⟨P,R,X,rfl,rfl,HK⟩:=hcut
 obtain⟨O,hO⟩:∃O,O=wc.heap.size:=⟨_,rfl⟩
 have HK2:=hdz (HK.out.new O hO (idxA n 0) 3)
 clear HK
 go_wp2_with fail
 rw[←hO]
 generalize wc.alloc (.cells (idxA n 0) 3)=W0 at*
 clear hO hmi
 have hlen:(ws.map val).length=n:=by rw[List.length_map];exact HS.out.1.symm
 have hsn:0<(ws.map val).sum:=hS
 have hn0s:∀x∈ws.map val,0≤x:=by intro x hx;obtain⟨y,hy,rfl⟩:=List.mem_map.1 hx;exact hw0 y hy
 have HPS:=hdz (ZkX (t:=val t) h0 hn0s hsn)
 have HBA:=hdz (fun k x h=>Zmw (val t) (ws:=ws) (k:=k) (x:=x) h)
 have HUP:=hdz (Zmz (val t) (ws.map val) n hlen)
 have HRB:=hdz (ZaR (val t) hsn)
 have hbl:(baseL (val t) (ws.map val)).length=n:=by simpa[baseL] using hlen
 have hrl:(restL (val t) (ws.map val)).length=n:=by simpa[restL] using hlen
 have HMU:=hdz (fun k (hk:k<n)=>Zfu (l:=baseL (val t) (ws.map val)) (k:=k) (by omega))
 have HML:=hdz (show missL (val t) (ws.map val)=val t-((baseL (val t) (ws.map val)).take n).sum by unfold missL;rw[List.take_of_length_le (by omega)])
 have HMC:=hdz (show 0≤missL (val t) (ws.map val)∧missL (val t) (ws.map val)≤n by
  refine⟨Zbl _ hsn,Int.le_trans (Zba _ hsn) ?_⟩
  have:=List.countP_le_length (p:=fun r:Int=>decide (0<r)) (l:=restL (val t) (ws.map val))
  omega)
 have HUL:=hdz (show upL (val t) (ws.map val)=(ordL (restL (val t) (ws.map val))).take (missL (val t) (ws.map val)).toNat from rfl)
 have e1:=(Za0 [] n).symm.trans (Za0 (baseL (val t) (ws.map val)) n)
 have e2:=(Za0 [] n).symm.trans (Za0 (restL (val t) (ws.map val)) n)
 generalize missL (val t) (ws.map val)=ms at*
 generalize hps:posL (val t) (ws.map val)=ps at*
 have HPQ:=hdz hps
 clear hps
 generalize upL (val t) (ws.map val)=ups at*
 generalize baseL (val t) (ws.map val)=bs at*
 generalize restL (val t) (ws.map val)=rs at*
 obtain⟨K,hK⟩:∃K:Nat,K=1000:=⟨_,rfl⟩
 rw[←hK] at ht
 have htv:=Zai ht
 have hsv:=ZhF (ws:=ws) (L:=K) (fun x hx=>by have:=HL.out x hx;omega)
 have hsl:=Zfn (ws:=ws) (L:=K) (fun x hx=>by have:=HL.out x hx;omega) (by have:=HS.out.1;omega)
 have HLP:=hdz (fun k x (h:ws[k]?=some x)=>Zab (n:=val t*val x) (L:=K+K) (Zak htv (Zai (by have:=HL.out x (List.mem_of_getElem? h);omega))))
 have HLM:=hdz (fun k=>Zab (n:=val t-(bs.take k).sum) (L:=K) (by have:=HPS.out k;omega))
 have HK3:=hdz (show Kp w [(O,idxA n 0,3),(P,partA bs n 0,24),(R,partA rs n 0,24),(X,#[Value.slice (some ⟨R,0,none⟩) n n],58)] W0 by rw[←e1,←e2];exact HK2.out)
 have HLR:=hdz (show ∀j,(txtL (rs.getD j 0)).length≤100000 from fun j=>by
  have hb:0≤rs.getD j 0∧rs.getD j 0≤sumV ws:=by
   rw[List.getD_eq_getElem?_getD]
   cases hj:rs[j]? with
   |none=>exact⟨Int.le_refl _,Int.le_of_lt hS⟩
   |some r=>have:=HRB.out r (List.mem_of_getElem? hj);exact⟨this.1,Int.le_of_lt this.2⟩
  have h10:1000*10^K<10^(K+4):=by rw[Nat.pow_add];have:1≤10^K:=Nat.pow_pos (by omega);omega
  have hn2:ws.length*10^K≤1000*10^K:=Nat.mul_le_mul_right _ (by have:=HS.out.1;omega)
  have:=Zab (n:=rs.getD j 0) (L:=K+4) (by omega)
  omega)
 have HLB:=hdz (show ∀q,q<n→(txtL (bs.getD q 0)).length≤100000 from fun q hq=>by
  have h1:=HPS.out q;have h2:=HPS.out (q+1)
  rw[HMU.out q hq] at h2
  have:=Zab (n:=bs.getD q 0) (L:=K) (by omega)
  omega)
 have hK2:=hK
 clear htv hsv e1 e2 HK2 h0 hw0 hsn hn0s
 go_loopw [9,10,11,30] (fun m _ _ i wr=>∃k:Nat,k≤n∧m=.string ⟨(txtL (val t-(bs.take k).sum)).toArray⟩∧i=.int .i64 k∧Hid (Kp w [(O,idxA n k,3),(P,partA bs n k,24),(R,partA rs n k,24),(X,#[Value.slice (some ⟨R,0,none⟩) n n],58)] wr)) (fun _ _ _ i _=>n-(intOf i).toNat)
 case atStart=>exact⟨0,Nat.zero_le _,(by rw[List.take_zero,List.sum_nil,Int.sub_zero,←HTC.out]),rfl,HK3⟩
 case round=>
  clear HK3
  obtain⟨k,hk,rfl,rfl,H⟩:=hrel
  by_cases hlt:k<n
  ·obtain⟨b,off,x,rfl,hb,hx,d0⟩:=(HS.out.below H.out.bl).st hlt
   have HX:=hdz hx
   clear hx
   obtain⟨hb1,hb2⟩:=HBA.out k x HX.out
   have HMUL:=hdz (fun W hp=>ZcJ t x W hp (by omega) (by have:=HL.out x (List.mem_of_getElem? HX.out);omega))
   have HDV:=hdz (fun W hp=>(Zdn (txtL (val t*val x)) (txtL (sumV ws)) W hp (by have:=HLP.out k x HX.out;omega) (by omega)).mono fun e w' h=>ZbV (by rw[Zaa];omega) h)
   rw[Zaa,Zaa,←hb1,←hb2] at HDV
   have HSU:=hdz (fun W hp=>ZcI (txtL (val t-(bs.take k).sum)) (txtL (bs.getD k 0)) W hp (by have:=HLM.out k;omega) (by
    have h1:=HPS.out k;have h2:=HPS.out (k+1)
    rw[HMU.out k hlt] at h2
    have:=Zab (n:=bs.getD k 0) (L:=K) (by have:=Zai ht;omega)
    omega))
   rw[Zaa,Zaa,show val t-(bs.take k).sum-bs.getD k 0=val t-(bs.take (k+1)).sum by rw[HMU.out k hlt];omega] at HSU
   clear hb1 hb2
   generalize txtL (val t-(bs.take k).sum)=tm at*
   generalize htm2:txtL (val t-(bs.take (k+1)).sum)=tm2 at*
   have HTM2:=hdz htm2
   clear htm2
   generalize txtL (val t*val x)=tp at*
   have HPA:=hdz (Zf5 bs n k hlt)
   have HRA:=hdz (Zf5 rs n k hlt)
   have HIA:=hdz (ZkV n k hlt)
   have HPO2:=hdz (Zjn bs n k hlt)
   have HPN:=hdz (Zf4 bs n k hlt)
   have HRN:=hdz (Zf4 rs n k hlt)
   have HIN:=hdz (ZkU n k hlt)
   generalize txtL (bs.getD k 0)=tb at*
   generalize txtL (rs.getD k 0)=tr at*
   generalize txtL (sumV ws)=tsum at*
   unfold S at HMUL HDV HSU
   have nPR:=H.out.ne 1 2 rfl rfl (by decide)
   have nRP:=H.out.ne 2 1 rfl rfl (by decide)
   have i1:(0:Int)≤(k:Int):=by omega
   have i2:(k:Int)<(n:Int):=by omega
   go_upto_region 8 with (fail)
   go_cut [] (fun w9=>Hid (Kp w [(O,idxA n k,3),(P,partA bs n (k+1),24),(R,partA rs n (k+1),24),(X,#[Value.slice (some ⟨R,0,none⟩) n n],58)] w9))
   case first=>
    have x0:wr.cell? ⟨X,0,none⟩=some (.slice (some ⟨R,0,none⟩) n n):=H.out.c 3 0 rfl rfl
    clear d0 HS HL HTC HPS HMU HML HUP HRB HUL HBA HLP HLM hsl ht hK hK2 HX HMC HSU HPO2 HIN HIA hb hlen hbl hrl hS hn hn0 hk hlt
    go_region_held3 (fun w'=>w'.cell? ⟨X,0,none⟩=some (.slice (some ⟨R,0,none⟩) n n))
     (first
       |with_reducible exact k2
       |with_reducible exact k3
       |with_reducible exact k4 _
       |with_reducible exact k5 _
       |with_reducible exact k6 _ _
       |go_keep)
     (first
       |(go_at_call 148;refine(HMUL.out _ H.out.drew.po).mono ?_;rintro e w2 ⟨rfl,hb2⟩;unfold S;have hz:Below wr.heap.size wr w2:=(Below.refl _ wr).drew.trans hb2;have k2:w2.cell? ⟨X,0,none⟩=some (.slice (some ⟨R,0,none⟩) n n):=(H.out.here hz).c 3 0 rfl rfl)
       |(go_at_call 155;refine(HDV.out _ (H.out.here hz).po).mono ?_;rintro e w3 ⟨rfl,hb3⟩;have hz2:Below wr.heap.size wr w3:=hz.trans (hb3.mono hz.size);have g1:=(H.out.here hz2).f 1 k rfl;have g2:=(H.out.here hz2).f 2 k rfl;have p1:=(H.out.here hz2).c 1 k rfl HPN.out;have p2:=(H.out.here hz2).c 2 k rfl HRN.out;have k3:w3.cell? ⟨X,0,none⟩=some (.slice (some ⟨R,0,none⟩) n n):=(H.out.here hz2).c 3 0 rfl rfl;have k4:∀v,(w3.setCell ⟨P,k,none⟩ v).cell? ⟨X,0,none⟩=some (.slice (some ⟨R,0,none⟩) n n):=(fun v=>((H.out.here hz2).set 1 k rfl v).c 3 0 rfl rfl);have k5:∀v,(w3.setCell ⟨R,k,none⟩ v).cell? ⟨X,0,none⟩=some (.slice (some ⟨R,0,none⟩) n n):=(fun v=>((H.out.here hz2).set 2 k rfl v).c 3 0 rfl rfl);have k6:∀u v,((w3.setCell ⟨P,k,none⟩ u).setCell ⟨R,k,none⟩ v).cell? ⟨X,0,none⟩=some (.slice (some ⟨R,0,none⟩) n n):=(fun u v=>(((H.out.here hz2).set 1 k rfl u).set 2 k rfl v).c 3 0 rfl rfl)))
    all_goals
     go_wp2_with fail
     go_meet
     first
      |(have h9:Kp w [(O,idxA n k,3),(P,(partA bs n k).setIfInBounds k (.string ⟨tb.toArray⟩),24),(R,(partA rs n k).setIfInBounds k (.string ⟨tr.toArray⟩),24),(X,#[Value.slice (some ⟨R,0,none⟩) n n],58)] _:=((H.out.here hz2).set 1 k rfl (.string ⟨tb.toArray⟩)).set 2 k rfl (.string ⟨tr.toArray⟩)
        rw[HPA.out,HRA.out] at h9
        exact h9)
      |(have h9:Kp w [(O,idxA n k,3),(P,(partA bs n k).setIfInBounds k (.string ⟨tb.toArray⟩),24),(R,(partA rs n k).setIfInBounds k (.string ⟨tr.toArray⟩),24),(X,#[Value.slice (some ⟨R,0,none⟩) n n],58)] _:=((H.out.here hz2).set 2 k rfl (.string ⟨tr.toArray⟩)).set 1 k rfl (.string ⟨tb.toArray⟩)
        rw[HPA.out,HRA.out] at h9
        exact h9)
   case rest=>
   clear H HMUL HDV HPA HRA HPN HRN nPR nRP d0 HX
   have H:=hcut
   clear hcut
   have p1:wc.cell? ⟨P,k,none⟩=some (.string ⟨tb.toArray⟩):=H.out.c 1 k rfl HPO2.out
   go_wp2_with fail
   refine(HSU.out _ H.out.po).mono ?_
   rintro e w10 ⟨rfl,hb10⟩
   replace H:=hdz (H.out.here hb10)
   clear hb10 p1
   have q1:w10.cell? ⟨O,k,none⟩=some (.int .i64 0):=H.out.c 0 k rfl HIN.out
   have g1:=H.out.f 0 k rfl
   have H9:=hdz (show Kp w [(O,idxA n (k+1),3),(P,partA bs n (k+1),24),(R,partA rs n (k+1),24),(X,#[Value.slice (some ⟨R,0,none⟩) n n],58)] (w10.setCell ⟨O,k,none⟩ (.int .i64 (k:Nat))) by
    have h9:Kp w [(O,(idxA n k).setIfInBounds k (.int .i64 (k:Nat)),3),(P,partA bs n (k+1),24),(R,partA rs n (k+1),24),(X,#[Value.slice (some ⟨R,0,none⟩) n n],58)] _:=H.out.set 0 k rfl (.int .i64 (k:Nat))
    rw[HIA.out] at h9
    exact h9)
   go_wp2_with fail
   go_roundw
   case rel=>exact⟨k+1,by omega,(by rw[HTM2.out];rfl),by go_num,H9⟩
   case measure=>simp[intOf];omega
  ·obtain rfl:k=n:=by omega
   clear HMU HBA HLP HLM HPS
   have hO:=H.out.at_ 0 rfl
   rw[ZkW] at hO
   have hX:=H.out.c 3 0 rfl rfl
   have hRR:=H.out.at_ 2 rfl
   have HSO:=hdz (show Calls Tryz.prog 239 #[.slice (some ⟨O,0,none⟩) k k,.func (.func 240) #[] #[.pointer (some ⟨X,0,none⟩)]] wr fun e w'=>e=.returned (.tuple #[])∧wr.grownBy w' (some O)∧BlkB w' O (idxV (ordL rs)) 3 from
    ZkS Tryz.sortI 240 #[.pointer (some ⟨X,0,none⟩)] rs k O k wr 3 hrl hn0 (by omega) (enters_of Tryz.func240 (by kernel_rfl) rfl) hO
     (fun W' hg x y hx hy=>ZkT rs k R X x y hx hy (by omega) W'
       ((World.cell?_of_block (hg.block X (H.out.lt 3 rfl) (fun e=>H.out.ne 3 0 rfl rfl (by decide) (by injection e)))).trans hX)
       (fun j hj=>(World.cell?_of_block (hg.block R (H.out.lt 2 rfl) (fun e=>H.out.ne 2 0 rfl rfl (by decide) (by injection e)))).trans (hRR.cell j (by rw[Zaq rs k k j hj,if_pos hj])))
       HLR.out))
   clear hO hX hRR
   obtain⟨m,hm⟩:∃m:Nat,ms=(m:Int):=⟨ms.toNat,by have:=HMC.out;omega⟩
   have hmk:m≤k:=by have:=HMC.out;omega
   have HSM:=hdz (Zjm m (by omega))
   rw[←HML.out,hm]
   rw[hm,Int.toNat_natCast] at HUL
   have HOL:=hdz (show(ordL rs).length=k by rw[Zaw];exact hrl)
   have HON:=hdz (ZbJ rs)
   have HOM:=hdz (show ∀q∈ordL rs,q<k from fun q hq=>by have:=Zcn.1 hq;omega)
   clear HML HMC hm
   generalize ordL rs=os at*
   generalize txtL (m:Int)=tm at*
   unfold S at HSM
   go_wp2_with fail
   refine HSO.out.mono ?_
   rintro e w2 ⟨rfl,hg2,hB2⟩
   have H2:=hdz (H.out.grown (i:=0) hg2 rfl hB2)
   clear hg2 hB2 H HSO
   go_wp2_with fail
   refine(HSM.out _ H2.out.pw).mono ?_
   rintro e w3 ⟨rfl,hb3⟩
   have H3:=hdz (H2.out.here hb3)
   clear hb3 H2 HSM
   have i1:(0:Int)≤(m:Int):=by omega
   have i2:(m:Int)≤(k:Int):=by omega
   have HK3:=hdz (show Kp w [(O,idxV os,3),(P,upA bs (os.take 0) k,24),(R,partA rs k k,24),(X,#[Value.slice (some ⟨R,0,none⟩) k k],58)] w3 by
    rw[List.take_zero,←Zmx]
    exact H3.out)
   have HIV:=hdz (show ∀(j q:Nat),os[j]?=some q→(idxV os)[j]?=some (Value.int .i64 (q:Nat)) from fun j q h=>by simp[idxV,h])
   clear H3 HTC HL HS HRB HLR hS hlen hrl hsl ht hK hK2
   go_wp2_with fail
   go_loopw [15,73] (fun _ j wr=>∃q:Nat,q≤m∧j=.int .i64 q∧Hid (Kp w [(O,idxV os,3),(P,upA bs (os.take q) k,24),(R,partA rs k k,24),(X,#[Value.slice (some ⟨R,0,none⟩) k k],58)] wr)) (fun _ j _=>m-(intOf j).toNat)
   case atStart=>exact⟨0,Nat.zero_le _,rfl,HK3⟩
   case round=>
    clear HK3
    obtain⟨q,hq,rfl,H⟩:=hrel
    by_cases hlt:q<m
    ·have hqo:q<os.length:=by have:=HOL.out;omega
     have hoq:os[q]?=some os[q]:=List.getElem?_eq_getElem hqo
     have hqk:os[q]<k:=HOM.out _ (List.getElem_mem hqo)
     have hnt:os[q] ∉ os.take q:=fun hm=>by
      obtain⟨j,hj,e⟩:=List.mem_take_iff_getElem.1 hm
      exact(List.pairwise_iff_getElem.1 HON.out) j q (by omega) hqo (by omega) (by simpa using e)
     have HTS:=hdz (show os.take (q+1)=os.take q++[os[q]] from List.take_succ_eq_append_getElem hqo)
     have hcO:=H.out.c 0 q rfl (HIV.out q _ hoq)
     generalize os[q]=z at*
     have HG:=hdz (show(upA bs (os.take q) k)[z]?=some (.string ⟨(txtL (bs.getD z 0)).toArray⟩) by rw[ZgQ bs (os.take q) k z hqk,if_neg hnt])
     have HSE:=hdz (Zmy bs (os.take q) k z hqk hnt)
     rw[←HTS.out] at HSE
     have HAD:=hdz (fun W hp=>ZbT (txtL (bs.getD z 0)) [49] W hp (HLB.out z hqk) (by simp))
     rw[Zaa,Za7] at HAD
     have hcP:=H.out.c 1 z rfl HG.out
     unfold S at HAD
     generalize txtL (bs.getD z 0)=tz at*
     generalize txtL (bs.getD z 0+1)=tz1 at*
     have z1:(0:Int)≤(z:Int):=by omega
     have z2:(z:Int)<(k:Int):=by omega
     clear hoq hnt HTS
     go_wp2_with fail
     refine(HAD.out _ H.out.po).mono ?_
     rintro e w4 ⟨rfl,hb4⟩
     unfold S
     replace H:=hdz (H.out.here hb4)
     clear hb4 hcO hcP
     have g1:=H.out.f 1 z rfl
     have hcP:=H.out.c 1 z rfl HG.out
     have H9:=hdz (show Kp w [(O,idxV os,3),(P,upA bs (os.take (q+1)) k,24),(R,partA rs k k,24),(X,#[Value.slice (some ⟨R,0,none⟩) k k],58)] (w4.setCell ⟨P,z,none⟩ (.string ⟨tz1.toArray⟩)) by
      have h9:Kp w [(O,idxV os,3),(P,(upA bs (os.take q) k).setIfInBounds z (.string ⟨tz1.toArray⟩),24),(R,partA rs k k,24),(X,#[Value.slice (some ⟨R,0,none⟩) k k],58)] _:=H.out.set 1 z rfl (.string ⟨tz1.toArray⟩)
      rw[HSE.out] at h9
      exact h9)
     go_wp2_with fail
     go_roundw
     case rel=>exact⟨q+1,by omega,by go_num,H9⟩
     case measure=>simp[intOf];omega
    ·obtain rfl:q=m:=by omega
     have hF:=H.out.at_ 1 rfl
     rw[←HUL.out,HUP.out] at hF
     have HF:=hdz hF
     have hold:=H.out.old 1 rfl
     clear hF
     go_wp2_with fail
     first|go_ret|skip
     exact⟨P,rfl,by rw[HPQ.out];exact HF.out,hold,H.out.bl⟩
end
section
open Go.RowKit Go.Shelf
def RowPost(l:List Int)(n:Nat)(w:World)(e:Ending)(w':World):Prop:=∃P,e=.returned (.slice (some ⟨P,0,none⟩) n n)∧BlkB w' P (partA l n n) 24∧w.heap.size≤P∧Below w.heap.size w w'
def RowPost2(l:List Int)(n:Nat)(r:Int)(w:World)(e:Ending)(w':World):Prop:=∃P,e=.returned (.tuple #[.slice (some ⟨P,0,none⟩) n n,.int .i64 r])∧BlkB w' P (partA l n n) 24∧w.heap.size≤P∧Below w.heap.size w w'
theorem ZgR(t:List UInt8)(A:Option Addr)(n c:Nat)(ws:List (List UInt8))(w:World)(hp:Env w)(hs:Strs w w.heap.size A n ws)(ht:t.length≤1000)(hl:∀x∈ws,x.length≤1000)(hn0:0<n)(hn:n≤1000)(htc:t=txtL (val t))(h0:0≤val t)(hw0:∀x∈ws,0≤val x)(hS:0<sumV ws):
 Calls Tryz.prog 169 #[S t,.slice A n c] w (RowPost (posL (val t) (ws.map val)) n w):=by
 have HNG:=hdz (Zbc t (by omega))
 rw[show decide (val t<0)=false by simpa using h0] at HNG
 have HPS:=hdz (fun W (hb:Below w.heap.size w W)=>Zf6 t A n c ws W (hp.here hb) (hs.here hb) ht hl hn0 hn htc h0 hw0 hS)
 have HPO:=hdz (show ∀e w',RowPost (posL (val t) (ws.map val)) n w e w'=∃P,e=.returned (.slice (some ⟨P,0,none⟩) n n)∧BlkB w' P (partA (posL (val t) (ws.map val)) n n) 24∧w.heap.size≤P∧Below w.heap.size w w' from fun _ _=>rfl)
 generalize RowPost (posL (val t) (ws.map val)) n w=post at*
 have H:=hdz (Kp.start hp)
 generalize posL (val t) (ws.map val)=ps at*
 clear hp hs ht hl hn0 hn htc h0 hw0 hS
 unfold S at*
 go_enter Tryz.func169,Tryz.ntmps169
 go_wp2_with fail
 refine(HNG.out _ H.out.pw).mono ?_
 rintro e w1 ⟨rfl,hb⟩
 replace H:=hdz (H.out.here hb)
 clear hb
 go_wp2_with fail
 refine(HPS.out _ H.out.bl).mono ?_
 rintro e w2 ⟨P,rfl,hB,hP,hb⟩
 have HB:=hdz hB
 clear hB
 go_wp2_with fail
 first|go_ret|skip
 rw[HPO.out]
 exact⟨P,rfl,HB.out,by have:=H.out.bl.size;omega,(H.out.here hb).bl⟩
theorem Zjp(t:List UInt8)(A:Option Addr)(n c:Nat)(ws:List (List UInt8))(w:World)(hp:Env w)(hs:Strs w w.heap.size A n ws)(ht:t.length≤1000)(hl:∀x∈ws,x.length≤1000)(hn0:0<n)(hn:n≤1000)(htc:t=txtL (val t))(h0:0≤val t)(hw0:∀x∈ws,0≤val x)(hS:0<sumV ws)(hc:splitC t ws=0):
 Calls Tryz.prog 125 #[S t,.slice A n c] w (RowPost2 (posL (val t) (ws.map val)) n 0 w):=by
 have HCK:=hdz (ZeW t A n c ws w hp hs (by omega) (fun x hx=>by have:=hl x hx;omega) (by omega))
 rw[hc] at HCK
 have HPS:=hdz (fun W (hb:Below w.heap.size w W)=>ZgR t A n c ws W (hp.here hb) (hs.here hb) ht hl hn0 hn htc h0 hw0 hS)
 have HPO:=hdz (show ∀e w',RowPost2 (posL (val t) (ws.map val)) n 0 w e w'=∃P,e=.returned (.tuple #[.slice (some ⟨P,0,none⟩) n n,.int .i64 0])∧BlkB w' P (partA (posL (val t) (ws.map val)) n n) 24∧w.heap.size≤P∧Below w.heap.size w w' from fun _ _=>rfl)
 generalize RowPost2 (posL (val t) (ws.map val)) n 0 w=post at*
 have H:=hdz (Kp.start hp)
 generalize posL (val t) (ws.map val)=ps at*
 clear hp hs ht hl hn0 hn htc h0 hw0 hS hc
 unfold S at*
 go_enter Tryz.func125,Tryz.ntmps125
 go_wp2_with fail
 refine HCK.out.mono ?_
 rintro e w1 ⟨rfl,hb⟩
 replace H:=hdz (H.out.here hb)
 clear hb
 go_wp2_with fail
 refine(HPS.out _ H.out.bl).mono ?_
 rintro e w2 ⟨P,rfl,hB,hP,hb⟩
 have HB:=hdz hB
 clear hB
 go_wp2_with fail
 first|go_ret2|skip
 rw[HPO.out]
 exact⟨P,rfl,HB.out,by have:=H.out.bl.size;omega,(H.out.here hb).bl⟩
theorem Zjq(t:List UInt8)(A:Option Addr)(n c:Nat)(ws:List (List UInt8))(w:World)(hp:Env w)(hs:Strs w w.heap.size A n ws)(ht:t.length≤1000)(hl:∀x∈ws,x.length≤1000)(hn:n≤1000000)(hc:splitC t ws≠0):
 Calls Tryz.prog 125 #[S t,.slice A n c] w fun e w'=>e=.returned (.tuple #[.slice none 0 0,.int .i64 (splitC t ws)])∧Below w.heap.size w w':=by
 have HCK:=hdz (ZeW t A n c ws w hp hs (by omega) (fun x hx=>by have:=hl x hx;omega) (by omega))
 generalize splitC t ws=r at*
 have hr:(r !=0)=true:=by simpa using hc
 clear hp hs ht hl hn hc
 unfold S at*
 go_enter Tryz.func125,Tryz.ntmps125
 go_wp2_with fail
 refine HCK.out.mono ?_
 rintro e w1 ⟨rfl,hb⟩
 go_wp2_with fail
 first|go_ret2|skip
 exact⟨rfl,hb⟩
end
section
open Go.RowKit Go.Shelf
structure Mp where
 cause:List UInt8
 day:Int
 inst:List UInt8
 other:List UInt8
 ratio:Fr
 share:Fr
 price:Fr
 keep:Bool
deriving DecidableEq
def mpC(m:Mp):Int:=
 if !(nameB m.cause&&nameB m.inst&&nameB m.other) then 23 else if !dayB m.day then 13 else if ¬(m.ratio.ok∧m.share.ok∧m.price.ok) then 1
 else if m.ratio.rat≤0∨m.share.rat<0∨1<m.share.rat∨m.price.rat<0 then 2 else if m.keep=true∧m.other=m.inst then 18 else if m.keep=false∧m.share.rat≠1 then 9 else 0
structure Mp.Ok (m:Mp):Prop where
 cause:nameB m.cause=true
 inst:nameB m.inst=true
 other:nameB m.other=true
 day:dayB m.day=true
 ratio:m.ratio.ok
 share:m.share.ok
 price:m.price.ok
 r0:0<m.ratio.rat
 s0:0≤m.share.rat
 s1:m.share.rat≤1
 p0:0≤m.price.rat
 keep:m.keep=true→m.other≠m.inst
 all:m.keep=false→m.share.rat=1
theorem Zel(m:Mp):mpC m=0↔m.Ok:=by
 unfold mpC
 constructor
 ·intro h
  split at h
  ·cases h
  rename_i h1
  split at h
  ·cases h
  rename_i h2
  split at h
  ·cases h
  rename_i h3
  split at h
  ·cases h
  rename_i h4
  split at h
  ·cases h
  rename_i h5
  split at h
  ·cases h
  rename_i h6
  simp only[Bool.not_eq_true',Bool.not_eq_false,Bool.and_eq_true] at h1 h2
  have h3:=Classical.not_not.1 h3
  simp only[not_or,Rat.not_le,Rat.not_lt] at h4
  exact⟨h1.1.1,h1.1.2,h1.2,h2,h3.1,h3.2.1,h3.2.2,h4.1,h4.2.1,h4.2.2.1,h4.2.2.2,fun a b=>h5 ⟨a,b⟩,fun a=>Classical.not_not.1 (fun b=>h6 ⟨a,b⟩)⟩
 ·intro h
  rw[if_neg (by simp[h.cause,h.inst,h.other]),if_neg (by simp[h.day]),if_neg (by simp[h.ratio,h.share,h.price]),if_neg,if_neg,if_neg]
  ·exact fun a=>a.2 (h.all a.1)
  ·exact fun a=>h.keep a.1 a.2
  ·simp only[not_or,Rat.not_le,Rat.not_lt]
   exact⟨h.r0,h.s0,h.s1,h.p0⟩
def divS(t:Int)(ws:List Int):List Int:=if ws.sum=0 then ws.map (fun _=>0) else posL t ws
theorem Zem(t:Int)(ws:List Int):(divS t ws).length=ws.length:=by
 unfold divS
 split
 ·simp
 ·exact ZbX t ws
theorem ZeX{t w S:Int}(hS:0<S)(hw:0≤w)(ht:t≤S):(t*w).fdiv S≤w∧(0<(t*w).fmod S→(t*w).fdiv S+1≤w):=by
 have h1:=Int.mul_fdiv_add_fmod (t*w) S
 have h2:=Int.fmod_nonneg_of_pos (t*w) hS
 have h3:t*w≤S*w:=Int.mul_le_mul_of_nonneg_right ht hw
 generalize (t*w).fdiv S=d at*
 generalize (t*w).fmod S=r at*
 constructor
 ·have:S*d≤S*w:=by omega
  exact Int.le_of_mul_le_mul_left this hS
 ·intro hr
  have:S*d<S*w:=by omega
  have:=Int.lt_of_mul_lt_mul_left this (Int.le_of_lt hS)
  omega
theorem ZcM{t:Int}{ws:List Int}(ht:0≤t)(hw:∀w∈ws,0≤w)(hS:0<ws.sum){i:Nat}{x w:Int}(hi:(posL t ws)[i]?=some x)(hwi:ws[i]?=some w):
 0≤x∧(t≤ws.sum→x≤w):=by
 obtain⟨hlt,e⟩:=List.getElem?_eq_some_iff.1 hwi
 have hw0:0≤w:=hw w (List.mem_of_getElem? hwi)
 rw[ZhD t ws i hlt,e] at hi
 have h0:0≤(t*w).fdiv ws.sum:=Int.fdiv_nonneg (Int.mul_nonneg ht hw0) (Int.le_of_lt hS)
 injection hi with hi
 by_cases hu:i∈upL t ws
 ·rw[if_pos hu] at hi
  refine⟨by omega,fun hts=> ?_⟩
  have hr:=Znk t hS hu
  have hr2:(restL t ws).getD i 0=(t*w).fmod ws.sum:=by
   unfold restL
   rw[List.getD_eq_getElem?_getD,List.getElem?_map,hwi]
   rfl
  rw[hr2] at hr
  have:=(ZeX hS hw0 hts).2 hr
  omega
 ·rw[if_neg hu] at hi
  exact⟨by omega,fun hts=>by have:=(ZeX hS hw0 hts).1;omega⟩
theorem Zf7{l:List Int}(h:∀x∈l,0≤x)(hs:l.sum=0):∀x∈l,x=0:=by
 intro x hx
 have h1:=h x hx
 have h2:=Zdp h hx
 omega
theorem ZgS{t:Int}{ws:List Int}(ht:0≤t)(hw:∀w∈ws,0≤w){i:Nat}{x w:Int}(hi:(divS t ws)[i]?=some x)(hwi:ws[i]?=some w):
 0≤x∧(t≤ws.sum→x≤w):=by
 unfold divS at hi
 split at hi
 ·rename_i h0
  rw[List.getElem?_map,hwi] at hi
  have hi:(0:Int)=x:=Option.some.inj hi
  have:=hw w (List.mem_of_getElem? hwi)
  exact⟨by omega,fun _=>by omega⟩
 ·rename_i h0
  have hs:=Zas hw
  exact ZcM ht hw (by omega) hi hwi
theorem ZdR{t:Int}{ws:List Int}(hw:∀w∈ws,0≤w)(h:0<ws.sum∨t=0):(divS t ws).sum=t:=by
 unfold divS
 split
 ·rename_i h0
  rcases h with h|h
  ·omega
  ·subst h
   generalize ws=l
   induction l with
   |nil=>rfl
   |cons a l ih=>simpa using ih
 ·rename_i h0
  have hs:=Zas hw
  exact ZhE t (by omega)
theorem ZaS{t:Int}{ws:List Int}(ht:0≤t)(hw:∀w∈ws,0≤w):∀x∈divS t ws,0≤x:=by
 intro x hx
 obtain⟨i,hi⟩:=List.getElem?_of_mem hx
 have hlt:=(List.getElem?_eq_some_iff.1 hi).1
 rw[Zem] at hlt
 exact(ZgS ht hw hi (List.getElem?_eq_getElem hlt)).1
def shrL(t p a:Int):Int:=rnd (Rat.divInt (t*p) a)
structure Plan where
 exact:Rat
 parts:Int
 part:Rat
 moved:Int
 taken:Int
 cash:Int
 n:List Int
 m:List Int
 f:List Int
 p:List Int
def planL(old:List Lot)(m:Mp):Plan:=
 let qs:=old.map fun x=>val x.q
 let cs:=old.map fun x=>val x.c
 let ex:Rat:=((qs.sum:Int):Rat)*m.ratio.rat
 let moved:=rnd (m.share.rat*((cs.sum:Int):Rat))
 let part:=ex-((flo ex:Int):Rat)
 let taken:=if part=0 then 0 else if flo ex=0 then moved else shrL moved (flr ex) ex.num
 let cash:=rnd (part*m.price.rat)
 {exact:=ex,parts:=flo ex,part:=part,moved:=moved,taken:=taken,cash:=cash,n:=divS (flo ex) qs,m:=divS moved cs,f:=divS taken (divS moved cs),p:=divS cash qs}
theorem Zco(q:Rat):q=Rat.divInt q.num q.den:=(Rat.num_divInt_den q).symm
theorem Zdq(q:Rat):q-((flo q:Int):Rat)=Rat.divInt (flr q) q.den:=by
 have hd:(q.den:Int)≠0:=by have:=q.den_nz;omega
 have h:=Zec q
 rw[Int.mul_comm] at h
 have e:((flo q:Int):Rat)=Rat.divInt (flo q) 1:=(Zay (flo q)).symm
 rw[e]
 conv=>lhs;lhs;rw[Zco q]
 rw[Rat.divInt_sub_divInt _ _ hd (by omega)]
 congr 1
 ·omega
 ·omega
theorem ZhG(q:Rat):flr q=0↔q-((flo q:Int):Rat)=0:=by
 rw[Zdq]
 have hd:(q.den:Int)≠0:=by have:=q.den_nz;omega
 constructor
 ·intro h;rw[h,Rat.zero_divInt]
 ·intro h
  have h2:Rat.divInt (flr q) q.den=Rat.divInt 0 1:=by rw[h];rfl
  rw[Rat.divInt_eq_divInt_iff hd (by omega)] at h2
  omega
theorem Zcp{q:Rat}(h:0≤q):0≤flo q:=Int.fdiv_nonneg (Rat.num_nonneg.2 h) (by omega)
theorem Zen(q:Rat):0≤q-((flo q:Int):Rat):=by
 rw[Zdq,←Rat.num_nonneg,Rat.num_divInt]
 obtain⟨h1,h2⟩:=ZaJ q
 have hd:(0:Int)<q.den:=by omega
 rw[Int.sign_eq_one_of_pos hd,Int.one_mul]
 exact Int.ediv_nonneg h1 (by omega)
theorem Zcq(q:Rat):flo q≤rnd q∧(rnd q=flo q∨(rnd q=flo q+1∧flr q≠0)):=by
 unfold rnd
 split
 ·rename_i h
  have:=ZaJ q
  exact⟨by omega,.inr ⟨rfl,by omega⟩⟩
 ·exact⟨by omega,.inl rfl⟩
theorem Zdr{q:Rat}(h:0≤q):0≤rnd q:=by
 have:=Zcp h
 have:=(Zcq q).1
 omega
theorem Zl3{n d k:Int}(hd:0<d)(h:n≤k*d):rnd (Rat.divInt n d)≤k:=by
 have hf:=ZdO n d (by omega)
 have h1:=Int.mul_fdiv_add_fmod n d
 have h2:=Int.fmod_nonneg_of_pos n hd
 obtain⟨h3,h4⟩:=Zcq (Rat.divInt n d)
 have hle:n.fdiv d≤k:=by
  have:d*n.fdiv d≤d*k:=by rw[Int.mul_comm d k];omega
  exact Int.le_of_mul_le_mul_left this hd
 rcases h4 with h4|⟨h4,h5⟩
 ·omega
 ·rcases Int.lt_or_eq_of_le hle with h6|h6
  ·omega
  ·-- then n is k*d,and nothing remains
   exfalso
   have hn:n=k*d:=by
    rw[h6,Int.mul_comm d k] at h1
    omega
   apply h5
   subst hn
   have e:Rat.divInt (k*d) d=((k:Int):Rat):=by
    rw[←Zay k,Rat.divInt_eq_divInt_iff (by omega) (by omega)]
    omega
   rw[e]
   unfold flr
   simp
theorem Zjr(k:Int):rnd ((k:Int):Rat)=k:=by
 have h:flr ((k:Int):Rat)=0:=by unfold flr;simp
 have h2:flo ((k:Int):Rat)=k:=by unfold flo;simp
 unfold rnd
 rw[h,h2,if_neg]
 simp
structure PlanOk (old:List Lot) (m:Mp) (x:Plan):Prop where
 ex:x.exact=((((old.map fun y=>val y.q).sum:Int)):Rat)*m.ratio.rat
 exact0:0≤x.exact
 parts0:0≤x.parts
 part0:0≤x.part
 moved0:0≤x.moved
 moved1:x.moved≤(old.map fun y=>val y.c).sum
 all:m.keep=false→x.moved=(old.map fun y=>val y.c).sum
 taken0:0≤x.taken
 taken1:x.taken≤x.moved
 whole:x.part=0→x.taken=0
 none:x.part≠0→x.parts=0→x.taken=x.moved
 cash0:0≤x.cash
 cash1:x.part=0→x.cash=0
theorem ZbK{old:List Lot}(h:∀y∈old,y.Ok):(∀z∈old.map (fun y=>val y.q),0≤z)∧∀z∈old.map (fun y=>val y.c),0≤z:=by
 constructor
 ·intro z hz
  obtain⟨y,hy,rfl⟩:=List.mem_map.1 hz
  have:=(h y hy).q0
  omega
 ·intro z hz
  obtain⟨y,hy,rfl⟩:=List.mem_map.1 hz
  exact(h y hy).c0
theorem ZcD{k:Int}(h:0≤k):(0:Rat)≤(k:Rat):=by exact_mod_cast h
theorem Zii{s:Rat}{k:Int}(hs:s≤1)(hk:0≤k):rnd (s*(k:Rat))≤k:=by
 have hd:(0:Int)<s.den:=by have:=s.den_pos;omega
 have e:s*(k:Rat)=Rat.divInt (s.num*k) s.den:=by
  conv=>lhs;rw[Zco s,←Zay k]
  rw[Rat.divInt_mul_divInt,Int.mul_one]
 rw[e]
 refine Zl3 hd ?_
 have hn:s.num≤s.den:=by
  have h1:s=Rat.divInt s.num s.den:=Zco s
  have h2:¬(1:Rat)<s:=Rat.not_lt.2 hs
  have h3:(1:Rat)=Rat.divInt 1 1:=rfl
  rw[h1,h3,Zbk _ _ (by omega) hd] at h2
  omega
 rw[Int.mul_comm k]
 exact Int.mul_le_mul_of_nonneg_right hn hk
theorem Zc2{old:List Lot}{m:Mp}(h:∀y∈old,y.Ok)(hm:m.Ok):PlanOk old m (planL old m):=by
 obtain⟨hq,hc⟩:=ZbK h
 have hqs:=Zas hq
 have hcs:=Zas hc
 have hex:(0:Rat)≤((((old.map fun y=>val y.q).sum:Int)):Rat)*m.ratio.rat:=Rat.mul_nonneg (ZcD hqs) (Rat.le_of_lt hm.r0)
 have hmv:(0:Rat)≤m.share.rat*((((old.map fun y=>val y.c).sum:Int)):Rat):=Rat.mul_nonneg hm.s0 (ZcD hcs)
 have hm0:=Zdr hmv
 have hpt:=Zen (((((old.map fun y=>val y.q).sum:Int)):Rat)*m.ratio.rat)
 have hshr:∀mv:Int,0≤mv→∀ex:Rat,0≤ex→flo ex≠0→0≤shrL mv (flr ex) ex.num∧shrL mv (flr ex) ex.num≤mv:=by
  intro mv hmv ex hex hne
  have h1:=Zec ex
  obtain⟨h2,h3⟩:=ZaJ ex
  have h4:=Zcp hex
  have h5:(0:Int)≤ex.den*flo ex:=Int.mul_nonneg (by omega) h4
  have h6:(0:Int)<ex.den*flo ex:=Int.mul_pos (by omega) (by omega)
  have hn:0<ex.num:=by omega
  have hle:flr ex≤ex.num:=by omega
  unfold shrL
  constructor
  ·refine Zdr ?_
   rw[←Rat.num_nonneg,Rat.num_divInt,Int.sign_eq_one_of_pos hn,Int.one_mul]
   exact Int.ediv_nonneg (Int.mul_nonneg hmv h2) (by omega)
  ·exact Zl3 hn (Int.mul_le_mul_of_nonneg_left hle hmv)
 refine⟨rfl,hex,Zcp hex,hpt,hm0,Zii hm.s1 hcs,?_,?_,?_,?_,?_,Zdr (Rat.mul_nonneg hpt hm.p0),?_⟩
 ·intro hk
  show rnd (m.share.rat*_)=_
  rw[hm.all hk,Rat.one_mul,Zjr]
 ·show 0≤ite _ _ _
  split
  ·omega
  ·split
   ·exact hm0
   ·rename_i h1 h2
    exact(hshr _ hm0 _ hex h2).1
 ·show ite _ _ _≤_
  split
  ·exact hm0
  ·split
   ·exact Int.le_refl _
   ·rename_i h1 h2
    exact(hshr _ hm0 _ hex h2).2
 ·intro hp
  exact if_pos hp
 ·intro hp h0
  exact(if_neg hp).trans (if_pos h0)
 ·intro hp
  show rnd (_*_)=0
  have hp':(planL old m).part=0:=hp
  rw[show((((old.map fun y=>val y.q).sum:Int)):Rat)*m.ratio.rat-((flo (((((old.map fun y=>val y.q).sum:Int)):Rat)*m.ratio.rat):Int):Rat)=0 from hp',Rat.zero_mul]
  exact Zjr 0
end
section
open Go.RowKit Go.Shelf
theorem ZkZ:Gives 46 #[] (FrV (frOf 1)):=by
 intro w hp
 have H:=hdz ((Kp.start hp).new w.heap.size rfl #[.string ⟨#[]⟩,.string ⟨#[]⟩] 26)
 have HOF:=hdz (fun W hp=>Zdo [49] W hp (by simp))
 rw[Za7,show((1:Int):Rat)=1 from rfl] at HOF
 generalize frOf 1=f at*
 unfold FrV S at*
 clear hp
 go_enter Tryz.func46,Tryz.ntmps46
 go_wp2_with fail
 generalize w.alloc _=W at*
 refine(HOF.out _ H.out.po).mono ?_
 rintro e w1 ⟨rfl,hb⟩
 try unfold FrV S
 replace H:=hdz (H.out.here hb)
 have c0:w1.cell? ⟨w.heap.size,0,none⟩=some (.string ⟨#[]⟩):=H.out.c 0 0 rfl rfl
 have c1:w1.cell? ⟨w.heap.size,1,none⟩=some (.string ⟨#[]⟩):=H.out.c 0 1 rfl rfl
 have f0:=H.out.f 0 0 rfl;have f1:=H.out.f 0 1 rfl
 go_wp2_with fail
 refine bodyPost_ret (v:=.agg #[.string ⟨f.n.toArray⟩,.string ⟨f.d.toArray⟩]) (by simp[results,Tryz.results46,go_sem,c0,c1]) rfl ?_
 exact⟨rfl,((H.out.set 0 0 rfl _).set 0 1 rfl _).bl⟩
theorem Zbn(f:Fr)(hf:f.Sz 20000):Gives 44 #[FrV f] (.int .i64 (cmpR f.rat 0)):=by
 intro w hp
 have H:=hdz ((Kp.start hp).new w.heap.size rfl #[.string ⟨f.n.toArray⟩,.string ⟨f.d.toArray⟩] 26)
 have HCM:=hdz (fun W hp=>ZdB f Fr.zero W hp hf ⟨by simp[Fr.zero],by simp[Fr.zero]⟩)
 rw[ZdM] at HCM
 generalize cmpR f.rat 0=z at*
 have x0:(w.alloc (.cells #[.string ⟨f.n.toArray⟩,.string ⟨f.d.toArray⟩] 26)).cell? ⟨w.heap.size,0,none⟩=some (.string ⟨f.n.toArray⟩):=H.out.c 0 0 rfl rfl
 have x1:(w.alloc (.cells #[.string ⟨f.n.toArray⟩,.string ⟨f.d.toArray⟩] 26)).cell? ⟨w.heap.size,1,none⟩=some (.string ⟨f.d.toArray⟩):=H.out.c 0 1 rfl rfl
 unfold FrV S at*
 unfold Fr.zero at*
 clear hp hf
 go_enter Tryz.func44,Tryz.ntmps44
 go_wp2_with fail
 generalize w.alloc _=W at*
 refine(HCM.out _ H.out.po).mono ?_
 rintro e w1 ⟨rfl,hb⟩
 go_wp2_with fail
 first|go_ret|skip
 exact⟨rfl,(H.out.here hb).bl⟩
theorem ZdE(f:Fr)(hf:f.Sz 20000):Gives 73 #[FrV f] (S (txtL (rnd f.rat))):=by
 intro w hp
 have H:=hdz ((Kp.start hp).new w.heap.size rfl #[.string ⟨f.n.toArray⟩,.string ⟨f.d.toArray⟩] 26)
 have HRD:=hdz (ZfZ f hf)
 generalize txtL (rnd f.rat)=t at*
 have x0:(w.alloc (.cells #[.string ⟨f.n.toArray⟩,.string ⟨f.d.toArray⟩] 26)).cell? ⟨w.heap.size,0,none⟩=some (.string ⟨f.n.toArray⟩):=H.out.c 0 0 rfl rfl
 have x1:(w.alloc (.cells #[.string ⟨f.n.toArray⟩,.string ⟨f.d.toArray⟩] 26)).cell? ⟨w.heap.size,1,none⟩=some (.string ⟨f.d.toArray⟩):=H.out.c 0 1 rfl rfl
 unfold FrV S at*
 clear hp hf
 go_enter Tryz.func73,Tryz.ntmps73
 go_wp2_with fail
 generalize w.alloc _=W at*
 refine(HRD.out _ H.out.pw).mono ?_
 rintro e w1 ⟨rfl,hb⟩
 go_wp2_with fail
 first|go_ret|skip
 exact⟨rfl,(H.out.here hb).bl⟩
theorem Zc3(A:Option Addr)(n c:Nat)(ws:List (List UInt8))(w:World)(hp:Env w)(hs:Strs w w.heap.size A n ws)(hl:∀x∈ws,x.length≤50000)(hn:n≤9999):
 Calls Tryz.prog 65 #[.slice A n c] w (StrPost (txtL (sumV ws)) w):=by
 have HPO:=hdz (show StrPost (txtL (sumV ws)) w=fun e w'=>e=.returned (S (txtL (sumV ws)))∧Below w.heap.size w w' from rfl)
 generalize StrPost (txtL (sumV ws)) w=post at*
 have HS:=hdz hs;have HL:=hdz hl
 have H0:=hdz (Kp.start hp)
 have hnw:=hs.1
 have HNW:=hdz hnw
 clear hs hl hp hnw
 unfold S at*
 go_enter Tryz.func65,Tryz.ntmps65
 go_wp2_with fail
 go_loopw [3,8] (fun s i wr=>∃k:Nat,k≤n∧i=.int .i64 k∧s=.string ⟨(txtL (sumV (ws.take k))).toArray⟩∧Hid (Kp w [] wr)) (fun _ i _=>n-(intOf i).toNat)
 case atStart=>exact⟨0,Nat.zero_le _,rfl,rfl,H0⟩
 case round=>
  clear H0
  obtain⟨k,hk,rfl,rfl,H⟩:=hrel
  by_cases hlt:k<n
  ·obtain⟨b,off,x,rfl,hb,hx,d0⟩:=(HS.out.below H.out.bl).st hlt
   have HA:=hdz (ZbT (txtL (sumV (ws.take k))) x wr H.out.po (by have:=Zbb HL.out (by rw[←HNW.out];omega) k;omega) (by have:=HL.out x (List.mem_of_getElem? hx);omega))
   rw[Zaa,←Zee hx] at HA
   clear hx
   unfold S at HA
   go_wp2_with fail
   refine HA.out.mono ?_
   rintro e w1 ⟨rfl,hb1⟩
   try unfold S
   go_wp2_with fail
   go_roundw
   case rel=>exact⟨k+1,by omega,by go_num,rfl,H.out.here hb1⟩
   case measure=>simp[intOf];omega
  ·have HE:=hdz (show txtL (sumV (ws.take k))=txtL (sumV ws) by rw[List.take_of_length_le (by have:=HNW.out;omega)])
   rw[HE.out]
   go_wp2_with fail
   first|go_ret|skip
   rw[HPO.out]
   exact⟨rfl,H.out.bl⟩
theorem ZgT(l:List Int)(n:Nat)(hl:∀x∈l,x=0):partA l n 0=partA l n n:=by
 unfold partA
 congr 1
 refine List.map_congr_left fun j hj=> ?_
 rw[if_neg (by omega),if_pos (List.mem_range.1 hj)]
 have h0:l.getD j 0=0:=by
  rw[List.getD_eq_getElem?_getD]
  cases h:l[j]? with
  |none=>rfl
  |some x=>exact hl x (List.mem_of_getElem? h)
 rw[h0];rfl
theorem ZbY(t:List UInt8)(A:Option Addr)(n c:Nat)(ws:List (List UInt8))(w:World)(hp:Env w)(hs:Strs w w.heap.size A n ws)(ht:t.length≤1000)(hl:∀x∈ws,x.length≤1000)(hn:n≤1000)(htc:t=txtL (val t))(h0:0≤val t)(hw0:∀x∈ws,0≤val x)(hwc:∀x∈ws,canB x=true):
 Calls Tryz.prog 74 #[S t,.slice A n c] w (RowPost (divS (val t) (ws.map val)) n w):=by
 have HPO:=hdz (show RowPost (divS (val t) (ws.map val)) n w=fun e w'=>∃P,e=.returned (.slice (some ⟨P,0,none⟩) n n)∧BlkB w' P (partA (divS (val t) (ws.map val)) n n) 24∧w.heap.size≤P∧Below w.heap.size w w' from rfl)
 have HDS:=hdz (show divS (val t) (ws.map val)=if(ws.map val).sum=0 then(ws.map val).map (fun _=>0) else posL (val t) (ws.map val) from rfl)
 generalize RowPost (divS (val t) (ws.map val)) n w=post at*
 generalize divS (val t) (ws.map val)=ds at*
 have H:=hdz (Kp.start hp)
 have hnw:=hs.1
 have hany:ws.any (fun x=> !canB x||decide (val x<0))=false:=by
  rw[List.any_eq_false]
  intro x hx
  have h1:=hwc x hx;have h2:=hw0 x hx
  simp[h1];exact h2
 have hcb:canB t=true:=by unfold canB;simpa using htc
 have hs0:0≤sumV ws:=Zas (l:=ws.map val) (fun y hy=>by obtain⟨x,hx,rfl⟩:=List.mem_map.1 hy;exact hw0 x hx)
 by_cases hz:sumV ws=0
 ·have hc:splitC t ws≠0:=by
   unfold splitC
   by_cases h1:ws=[]
   ·rw[if_pos h1];decide
   ·rw[if_neg h1,if_neg (by omega),if_neg (by simp[hcb];simpa using hany),if_pos hz];decide
  have HSN:=hdz (Zjq t A n c ws w hp hs ht hl (by omega) hc)
  have hr:(splitC t ws !=0)=true:=by simpa using hc
  rw[if_pos (show(ws.map val).sum=0 from hz)] at HDS
  have hmk:=run_make_row' (P:=Tryz.prog) 58 24 (.string ⟨#[]⟩) 16 Tryz.underlying58 ZkY rfl .i64 .i64 n (by omega) (by omega)
  rw[Za0 ds,ZgT ds n (fun x hx=>by rw[HDS.out] at hx;obtain⟨_,_,rfl⟩:=List.mem_map.1 hx;rfl)] at hmk
  generalize splitC t ws=r at*
  clear hp hs ht hl hn htc h0 hw0 hwc hany hcb hs0 hz hc hnw HDS
  unfold S at*
  go_enter Tryz.func74,Tryz.ntmps74
  go_wp2_with fail
  refine HSN.out.mono ?_
  rintro e w1 ⟨rfl,hb⟩
  replace H:=hdz (H.out.here hb)
  clear hb
  go_wp2_with fail
  first|go_ret|skip
  have H2:=H.out.new w1.heap.size rfl (partA ds n n) 24
  rw[HPO.out]
  exact⟨_,rfl,H2.at_ 0 rfl,H.out.bl.size,H2.bl⟩
 ·have hne:ws≠[]:=fun e=>hz (by rw[e];rfl)
  have hn0:0<n:=by
   rcases Nat.eq_zero_or_pos n with h|h
   ·exact absurd (List.eq_nil_of_length_eq_zero (by omega)) hne
   ·exact h
  have hc:splitC t ws=0:=by
   unfold splitC
   rw[if_neg hne,if_neg (by omega),if_neg (by simp[hcb];simpa using hany),if_neg hz]
  have HSO:=hdz (Zjp t A n c ws w hp hs ht hl hn0 hn htc h0 hw0 (by omega) hc)
  rw[if_neg (show ¬(ws.map val).sum=0 from hz)] at HDS
  rw[←HDS.out] at HSO
  clear hp hs ht hl hn htc h0 hw0 hwc hany hcb hs0 hz hc hnw HDS hne hn0
  unfold S at*
  go_enter Tryz.func74,Tryz.ntmps74
  go_wp2_with fail
  refine HSO.out.mono ?_
  rintro e w1 ⟨P,rfl,hB,hP,hb⟩
  have HB:=hdz hB
  clear hB
  go_wp2_with fail
  first|go_ret|skip
  rw[HPO.out]
  exact⟨P,rfl,HB.out,hP,(H.out.here hb).bl⟩
end
section
open Go.RowKit Go.Shelf
attribute [local go_sem ↓] Go.wp_at_zero Go.wp_at_succ
theorem ZbZ(k:Int):frOf (k:Rat)=⟨txtL k,[]⟩:=by
 unfold frOf
 rw[Rat.num_intCast,Rat.den_intCast,if_pos rfl]
theorem ZmA{f:Fr}{L:Nat}(h:f.Sz L)(hL:1≤L):(txtL (flo f.rat)).length≤L+2:=by
 have h1:=Zd7 h hL
 have h2:=ZfW f.rat
 have h3:10^L+1<10^(L+1):=by rw[Nat.pow_succ];have:10^1≤10^L:=Nat.pow_le_pow_right (by omega) hL;omega
 exact Zab (L:=L+1) (by have:=h1.1;omega)
theorem Kp.fr{w W:World}{bs:List (Nat×Array Value×TypeId)}{p i:Nat}{f:Fr}{T:TypeId}(h:Kp w bs W)(hb:bs[i]?=some (p,#[.string ⟨f.n.toArray⟩,.string ⟨f.d.toArray⟩],T)):
 W.cell? ⟨p,0,none⟩=some (.string ⟨f.n.toArray⟩)∧W.cell? ⟨p,1,none⟩=some (.string ⟨f.d.toArray⟩):=⟨h.c i 0 hb rfl,h.c i 1 hb rfl⟩
theorem ZeY(f:Fr)(hf:f.Sz 5000):Gives 59 #[FrV f] (.tuple #[S (txtL (flo f.rat)),FrV (frOf (f.rat-((flo f.rat:Int):Rat)))]):=by
 intro w hp
 have H:=hdz (((Kp.start hp).new w.heap.size rfl #[.string ⟨f.n.toArray⟩,.string ⟨f.d.toArray⟩] 26).new (w.heap.size+1) (by simp) #[.string ⟨#[]⟩,.string ⟨#[]⟩] 26)
 have hfl:=ZmA hf (by omega)
 have HFL:=hdz (ZfY f (hf.more (by omega)))
 have HOF:=hdz (fun W hp=>Zdo (txtL (flo f.rat)) W hp (by omega))
 rw[Zaa] at HOF
 have HSU:=hdz (fun W hp=>Zhz f (frOf ((flo f.rat:Int):Rat)) W hp (hf.more (by omega)) (by rw[ZbZ];exact⟨by show(txtL _).length≤_;omega,by simp⟩))
 rw[Zac] at HSU
 generalize txtL (flo f.rat)=t at*
 generalize frOf (f.rat-((flo f.rat:Int):Rat))=res at*
 generalize frOf ((flo f.rat:Int):Rat)=g at*
 have x0:=H.out.c 1 0 rfl rfl;have x1:=H.out.c 1 1 rfl rfl
 unfold FrV at*
 unfold S at*
 clear hp hf hfl
 go_enter Tryz.func59,Tryz.ntmps59
 go_wp2_with fail
 generalize (w.alloc (.cells #[.string ⟨f.n.toArray⟩,.string ⟨f.d.toArray⟩] 26)).alloc (.cells #[.string ⟨#[]⟩,.string ⟨#[]⟩] 26)=W at*
 refine(HFL.out _ H.out.pw).mono ?_
 rintro e w1 ⟨rfl,hb⟩
 replace H:=hdz (H.out.here hb)
 clear hb x0 x1
 have x0:=H.out.c 1 0 rfl rfl;have x1:=H.out.c 1 1 rfl rfl
 go_wp2_with fail
 go_region_held3 (fun w'=>w'.cell? ⟨w.heap.size,0,none⟩=some (.string ⟨f.n.toArray⟩)∧w'.cell? ⟨w.heap.size,1,none⟩=some (.string ⟨f.d.toArray⟩))
  (first
    |exact k2
    |exact k3
    |exact k4 _ _
    |go_keep)
  (first
    |(go_at_call 60;refine(HOF.out _ H.out.drew.po).mono ?_;rintro e w2 ⟨rfl,hb2⟩;unfold FrV S;have hz:Below w1.heap.size w1 w2:=(Below.refl _ w1).drew.trans hb2;have k2:=(H.out.here hz).fr (f:=f) (i:=1) rfl)
    |(go_at_call 102;refine(HSU.out _ (H.out.here hz).po).mono ?_;rintro e w3 ⟨rfl,hb3⟩;unfold FrV S;have hz2:Below w1.heap.size w1 w3:=hz.trans (hb3.mono hz.size);have k3:=(H.out.here hz2).fr (f:=f) (i:=1) rfl;have n0:=(H.out.here hz2).c 0 0 rfl rfl;have n1:=(H.out.here hz2).c 0 1 rfl rfl;have g0:=(H.out.here hz2).f 0 0 rfl;have g1:=(H.out.here hz2).f 0 1 rfl;have k4:=(fun u v=>(((H.out.here hz2).set 0 0 rfl u).set 0 1 rfl v).fr (f:=f) (i:=1) rfl)))
 all_goals
  go_wp2_with fail
  refine bodyPost_ret (v:=.tuple #[.string ⟨t.toArray⟩,.agg #[.string ⟨res.n.toArray⟩,.string ⟨res.d.toArray⟩]]) (by simp[results,Tryz.results59,go_sem,n0,n1]) rfl ?_
  exact⟨rfl,(((H.out.here hz2).set 0 0 rfl _).set 0 1 rfl _).bl⟩
end
section
open Go.RowKit Go.Shelf
theorem ZmB(q:Rat):(rnd q).natAbs≤q.num.natAbs+2:=by
 have h1:=ZfW q
 rcases(Zcq q).2 with h|⟨h,_⟩<;>omega
theorem Zij{K:Nat}(hK:K≤4000)(hK1:1≤K)(t p a:Int)(ht:t.natAbs<10^K)(hpp:p.natAbs<10^K)(ha:a.natAbs<10^K)(h0:0≤p)(h1:p≤a)(h2:a≠0):
 Gives 128 #[S (txtL t),S (txtL p),S (txtL a)] (.tuple #[S (txtL (shrL t p a)),S (txtL (t-shrL t p a)),.int .i64 0]):=by
 intro w hp
 have H:=hdz (Kp.start hp)
 have lt:=Zab ht;have lp:=Zab hpp;have la:=Zab ha
 have HCT:=hdz (Zaz (txtL t) (by omega));have HCP:=hdz (Zaz (txtL p) (by omega));have HCA:=hdz (Zaz (txtL a) (by omega))
 rw[if_pos (by rw[Zaa])] at HCT HCP HCA
 have HNA:=hdz (Zbc (txtL a) (by omega));have HNP:=hdz (Zbc (txtL p) (by omega))
 rw[Zaa,show decide (a<0)=false by simp;omega] at HNA
 rw[Zaa,show decide (p<0)=false by simp;omega] at HNP
 have HCM:=hdz (fun W=>Zar (txtL p) (txtL a) W (by omega) (by omega))
 rw[Zaa,Zaa] at HCM
 have hgt:decide (0<sgnI (p-a))=false:=by unfold sgnI;simp;split<;>(try split)<;>omega
 have HMU:=hdz (fun W hp=>ZcJ (txtL t) (txtL p) W hp (by omega) (by omega))
 rw[Zaa,Zaa] at HMU
 have hm:=Zak ht hpp
 have lm:=Zab hm
 have HNW:=hdz (Zmp ⟨txtL (t*p),txtL a⟩ ⟨by show(txtL _).length≤_;omega,by show(txtL _).length≤_;omega⟩)
 have hnl:nwL ⟨txtL (t*p),txtL a⟩=(frOf (Rat.divInt (t*p) a),0):=by unfold nwL;simp only[Zaa];rw[if_neg h2]
 rw[hnl] at HNW
 have hrb:RB (K+K) (Rat.divInt (t*p) a):=RB.divInt hm (Nat.lt_of_lt_of_le ha (Nat.pow_le_pow_right (by omega) (by omega))) h2
 have hsz:=Zam hrb
 have HRD:=hdz (ZfZ (frOf (Rat.divInt (t*p) a)) (hsz.more (by omega)))
 rw[Zac,show rnd (Rat.divInt (t*p) a)=shrL t p a from rfl] at HRD
 have hsl:(shrL t p a).natAbs<10^(K+K+1):=by
  have h1:=ZmB (Rat.divInt (t*p) a)
  have h3:=hrb.1
  have h4:10^(K+K)+2<10^(K+K+1):=by rw[Nat.pow_succ];have:10^1≤10^(K+K):=Nat.pow_le_pow_right (by omega) (by omega);omega
  show(rnd _).natAbs<_
  omega
 have ls:=Zab hsl
 have HSB:=hdz (fun W hp=>ZcI (txtL t) (txtL (shrL t p a)) W hp (by omega) (by omega))
 rw[Zaa,Zaa] at HSB
 have hn:(txtL a==[])=false:=by
  rw[Bool.eq_false_iff]
  intro h
  exact h2 (ZaQ.1 (eq_of_beq h))
 have hn2:(txtL a).isEmpty=false:=by rw[←hn];cases txtL a<;>rfl
 clear ht hpp ha h0 h1 h2 lt lp la hm lm hnl hrb hsz hsl ls hK hK1 hp
 generalize frOf (Rat.divInt (t*p) a)=q at*
 generalize txtL (shrL t p a)=ts at*
 generalize txtL (t-shrL t p a)=tr at*
 generalize txtL (t*p)=tm at*
 generalize txtL t=tt at*
 generalize txtL p=tp at*
 generalize txtL a=ta at*
 generalize sgnI (p-a)=sg at*
 have HN:=hdz hn
 unfold FrV at*
 unfold S at*
 go_enter Tryz.func128,Tryz.ntmps128
 go_wp2_with fail
 refine(HCT.out _ H.out.pw).mono ?_
 rintro e w1 ⟨rfl,hb⟩
 replace H:=hdz (H.out.here hb);clear hb
 go_wp2_with fail
 refine(HCP.out _ H.out.pw).mono ?_
 rintro e w2 ⟨rfl,hb⟩
 replace H:=hdz (H.out.here hb);clear hb
 go_wp2_with fail
 refine(HCA.out _ H.out.pw).mono ?_
 rintro e w3 ⟨rfl,hb⟩
 replace H:=hdz (H.out.here hb);clear hb
 go_wp2_with fail
 refine(HNA.out _ H.out.pw).mono ?_
 rintro e w4 ⟨rfl,hb⟩
 replace H:=hdz (H.out.here hb);clear hb
 go_wp2_with fail
 refine(HNP.out _ H.out.pw).mono ?_
 rintro e w5 ⟨rfl,hb⟩
 replace H:=hdz (H.out.here hb);clear hb
 go_wp2_with fail
 refine(HCM.out _).mono ?_
 rintro e w6 ⟨rfl,hb⟩
 replace H:=hdz (H.out.here hb);clear hb
 go_wp2_with fail
 refine(HMU.out _ H.out.po).mono ?_
 rintro e w7 ⟨rfl,hb⟩
 try unfold S
 replace H:=hdz (H.out.here hb);clear hb
 go_wp2_with fail
 refine(HNW.out _ H.out.pw).mono ?_
 rintro e w8 ⟨rfl,hb⟩
 replace H:=hdz (H.out.here hb);clear hb
 replace H:=hdz (H.out.new w8.heap.size rfl #[.string ⟨q.n.toArray⟩,.string ⟨q.d.toArray⟩] 26)
 have x0:=H.out.c 0 0 rfl rfl;have x1:=H.out.c 0 1 rfl rfl
 go_wp2_with fail
 generalize w8.alloc _=W at*
 refine(HRD.out _ H.out.pw).mono ?_
 rintro e w9 ⟨rfl,hb⟩
 replace H:=hdz (H.out.here hb);clear hb x0 x1
 go_wp2_with fail
 refine(HSB.out _ H.out.po).mono ?_
 rintro e w10 ⟨rfl,hb⟩
 try unfold S
 go_wp2_with fail
 refine bodyPost_ret (v:=.tuple #[.string ⟨ts.toArray⟩,.string ⟨tr.toArray⟩,.int .i64 0]) (by simp[results,Tryz.results128,go_sem]) rfl ?_
 exact⟨rfl,(H.out.here hb).bl⟩
end
end Go.Proofs.YtpnncoinlopndaaGreatDoor
