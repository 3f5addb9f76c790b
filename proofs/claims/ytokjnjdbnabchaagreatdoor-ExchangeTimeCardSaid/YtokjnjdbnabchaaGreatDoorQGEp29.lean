/- Ep. -/
import Derived.Test.YtokjnjdbnabchaaGreatDoorQGEp28
set_option maxRecDepth 100000
set_option maxHeartbeats 8000000
namespace Go.Proofs.YtokjnjdbnabchaaGreatDoor
open Go.Lib renaming hid→jq
section
open Go.RowKit Go.Shelf
attribute [local go_sem] Oper.semAt_some
attribute [local go_sem ↓] Go.wp_at_zero Go.wp_at_succ
abbrev Pt:=Option Addr×Nat×List Ky
def ptV(x:Pt):Value:=.slice x.1 x.2.2.length x.2.1
theorem ZhQ(x:Pt):(ptV x).oneCell'=true:=rfl
def PtOk(B:Nat)(w:World)(x:Pt):Prop:=
 ∃g off cs,x.1=some ⟨g,off,none⟩/\B<=g/\w.heap[g]?=some (.cells cs 9 (0,0))/\(∀i s,x.2.2[i]?=some s->cs[off+i]?=some (.string ⟨s.toArray⟩))/\x.2.2≠[]/\∀s∈x.2.2,s.length<=maxLen
section
variable {w w':World} {B n c:Nat} {A:Option Addr} {x:Pt} {l:List Ky}
theorem PtOk.kept{row:Option Nat}(h:PtOk B w x)(hg:w.grownBy w' row)(hr:∀g cs,row=some g->w.heap[g]?=some (.cells cs 9 (0,0))->g<B):PtOk B w' x:=by
 obtain⟨g,off,cs,h1,h2,h3,h4⟩:=h
 exact⟨g,off,cs,h1,h2,(hg.block g (Array.getElem?_eq_some_iff.1 h3).1 (fun e=>by have:=hr g cs e.symm h3;omega)).trans h3,h4⟩
theorem PtOk.here(h:PtOk B w x)(hb:Below w.1.size w w'):PtOk B w' x:=h.kept (row:=none) ⟨hb.os,hb.tape,hb.output,hb.size,fun k hk _=>hb.block k hk⟩ (fun _ _ h=>by cases h)
theorem PtOk.strs(h:PtOk B w x):Vc w w.1.size x.1 x.2.2.length x.2.2:=by
 obtain⟨g,off,cs,h1,h2,h3,h4,_⟩:=h
 refine⟨rfl,fun _=>⟨g,off,h1,(Array.getElem?_eq_some_iff.1 h3).1,fun i s hi j u hj=> ?_⟩⟩
 cases j with
 |zero=>
  simp only[S1,S,List.getElem?_cons_zero,Option.some.injEq] at hj;rw[Nat.mul_one,Nat.add_zero,cell_of_row w g _ cs _ (0,0) h3,<-hj];exact h4 i s hi
 |succ j=>simp[S1] at hj
theorem PtOk.of_own(h:Own S1 1 9 w B (.slice A n c) l)(hl:l≠[])(hm:∀s∈l,s.length<=maxLen):PtOk B w (A,c,l):=by
 have hp:=List.length_pos_iff.2 hl;obtain⟨h1,h2⟩:=h
 rcases h2 with ⟨_,h0⟩|⟨g,cap,cur,hv,hb,hg,hn,hcm,hc,ht⟩
 ·omega
 ·cases hv
  refine⟨g,0,cur,rfl,hb,hg,fun i s hi=> ?_,hl,hm⟩;have hf:=Vt (enc:=S1) (k:=1) XY l i 0 s (.string ⟨s.toArray⟩) hi rfl;rw[<-ht,List.getElem?_take,Nat.mul_one,Nat.add_zero] at hf
  split at hf
  ·rw[Nat.zero_add,<-Array.getElem?_toList];exact hf
  ·cases hf
theorem Ziv{q:Nat}(h:BlkB w q #[ptV x] 32):Sl (fun x:Pt=>[ptV x]) 1 w w.1.size (some ⟨q,0,none⟩) 1 [x]:=by
 refine⟨rfl,fun _=>⟨q,0,rfl,h.lt,fun j z hj k u hk=> ?_⟩⟩
 cases j with
 |zero=>
  simp only[List.getElem?_cons_zero,Option.some.injEq] at hj;subst hj;rw[Nat.zero_mul,Nat.zero_add];exact h.cell k (by simpa using hk)
 |succ j=>simp at hj
theorem SeenB.congr{b:Nat}{l l':List Ky}(h:SeenB w b n l)(he:∀s,s∈l↔s∈l'):SeenB w b n l':=by
 obtain⟨D,h1,h2,h3⟩:=h
 exact⟨D,h1,h2,fun s=>by rw[h3 s,decide_eq_decide.2 (he s)]⟩
theorem SeenB.more{b n':Nat}(h:SeenB w b n l)(hn:n<=n'):SeenB w b n' l:=by
 obtain⟨D,⟨es,clock,h1,h2,h3,h4⟩,h5⟩:=h
 exact⟨D,⟨es,clock,h1,h2,Nat.le_trans h3 hn,h4⟩,h5⟩
end
def ZiT:Value->Nat
 | .slice _ n _=>n
 |_=>0
open Classical in
noncomputable def Ziw(bm:Nat)(codes:List Ky)(w:World):Nat:=(codes.filter fun c=>decide ((Instr.lookup 125 (.map (some bm)) (.string ⟨c.toArray⟩) false).run Tryz.prog w≠ .ok (.bool true) w)).length
theorem Zec{w:World}{bm n:Nat}{l codes:List Ky}(h:SeenB w bm n l)(hc:∀c∈codes,c.length<=maxLen):Ziw bm codes w=(codes.filter fun c=> !l.contains c).length:=by
 unfold Ziw
 congr 1
 refine List.filter_congr fun c hcm=> ?_
 rw[h.look (t:=125) Tryz.underlying125 (hc c hcm)]
 by_cases hm:c∈l<;>simp[hm]
theorem Zgx{R:Ky->Ky->Bool}{p:List Ky}{y nx:Ky}{codes:List Ky}{j:Nat}(h:codes[j]?=some nx)(s:List (List Ky)×List Ky):
 XN R p y (codes.drop j) s=if(R y nx&& !s.2.contains nx)=true then XN R p y (codes.drop (j+1)) (s.1++[p++[nx]],nx::s.2) else XN R p y (codes.drop (j+1)) s:=by
 obtain⟨hj,rfl⟩:=List.getElem?_eq_some_iff.1 h
 rw[List.drop_eq_getElem_cons hj,XN]
theorem Zbe:Yt Tryz.prog 126 32 1 24:=Vu Tryz.underlying126 (by kernel_rfl) (by decide) (by decide)
def slP(x v:Value):Sem Value:=Instr.sliceAt 126 x (some v) none none
theorem Zix(x v:Value):Instr.sliceAt 126 x (some v) none none=slP x v:=rfl
theorem ZhR(w:World)(g off n c:Nat)(hn:1<=n):(slP (.slice (some ⟨g,off,none⟩) n c) (.int .i64 1)).run Tryz.prog w=.ok (.slice (if c=1 then some ⟨g,off,none⟩ else some ⟨g,off+1,none⟩) (n-1) (c-1)) w:=by
 have hel:Tryz.prog.elem 126=32:=by kernel_rfl
 have hu:Tryz.prog.underlying 126=some (.slice (Tryz.prog.elem 126)):=by rw[hel];exact Tryz.underlying126
 have hsz:((sizeOf (Tryz.prog.elem 126)).run Tryz.prog w)=.ok 1 w:=by
  obtain⟨i0,z0,hu0,hi0,hz0,hs0,_⟩:=Zbe
  rw[hel];simp[sizeOf,typeInfo,hi0,hs0]
 unfold slP;rw[run_sliceAt_slice (h:=hu),run_slice_l (ht:=hu) (h0:=by omega) (h1:=by omega),hsz];simp only[Result.andThen_ok,sliced,Int.toNat_one]
 by_cases hc:c=1
 ·subst hc;simp
 ·have:¬c-1=0\/True:=.inr trivial
  simp[hc,Addr.add_lit]
  try rfl
attribute [local go_sem ↓] Zix
theorem ZcP{R:Ky->Ky->Bool}{codes seen:List Ky}{tg y:Ky}{n:Nat}{p:List Ky}{ps:List (List Ky)}(hy:p.getLast?=some y):bfs R codes tg (n+1) (p::ps) seen=if y=tg then some p else bfs R codes tg n (XN R p y codes (ps,seen)).1 (XN R p y codes (ps,seen)).2:=by
 rw[bfs,hy]
theorem ZdB(b n:Nat)(m:Ky×Ky->Option Fr)(src tg:Ky)(w:World)(hp:Env w)(hb:PmB w b n (fun x=>(m x).map Qj))(hn:n<=20000)(hsh:∀x,(m x).isSome=true->JY x)(hs1:src.length<=maxLen)(hs2:tg.length<=maxLen):
 Calls Tryz.prog 49 #[.map (some b),.string ⟨src.toArray⟩,.string ⟨tg.toArray⟩] w fun e w'=>∃A c l codes,e=.returned (.slice A l.length c)/\Vc w' w'.1.size A l.length l/\codes.Pairwise (·< ·)/\(∀a,a∈codes↔∃y,(m (a,y)).isSome=true)/\
  l=(bfs (fun x y=>(m (x,y)).isSome) codes tg (codes.length+1) [[src]] [src]).getD []/\l.length<=n+1/\Below w.1.size w w':=by
 have HB:=jq (fun W (hW:Below w.1.size w W)=>hb.here hW);have HCD:=jq (Zbc b n m w hp hb (by omega) hsh);have H:=jq (Kp.start hp);have HSZ:=jq (And.intro hs1 hs2);have HSH:=jq hsh;have hmm:= @run_makeMap Tryz.prog;clear hb hp hsh hs1 hs2;go_enter Tryz.func49,Tryz.ntmps49
 go_wp2_with fail
 refine HCD.out.mono ?_;rintro e w1 ⟨Ac,cc,codes,rfl,ho1,hpw,hcm,hln,hb1⟩;have HC1:=jq (ho1.sl XY);have HPW:=jq hpw;have HCM:=jq hcm;have HCL:=jq (show codes.length<=20000 from Nat.le_trans hln hn);have H1:=jq (H.out.here hb1);clear ho1 hpw hcm hb1 H HCD;obtain⟨W3,hput,hs3,hg3⟩:=(Za3 w1).put (t:=125) Tryz.underlying125 (by decide) HSZ.out.1
 have HS3:=jq hs3;have HG3:=jq (show Below w1.1.size w1 W3 from((Below.refl w1.1.size w1).alloc (Nat.le_refl _) (.map #[] 0)).trans (QR hg3 (by simp) (Nat.le_refl _) (fun r e=>by injection e with e;omega)));clear hs3 hg3;go_upto_region 4 with (fail)
 obtain⟨bm,hbm⟩:∃bm,w1.1.size=bm:=⟨_,rfl⟩
 have HBM:=jq hbm;have HCB1:=jq (show Vc W3 bm Ac codes.length codes by rw[<-hbm];exact Sl.below HC1.out HG3.out);have HWB:=jq (show w.1.size<=bm by rw[<-hbm];exact H1.out.bl.size);rw[hbm] at HS3 ⊢;clear hput hbm;have H3:=jq (H1.out.here HG3.out);have HC3:=jq (HC1.out.here HG3.out);have HB4:=jq (H3.out.new W3.1.size rfl #[.map (some bm)] 125);have HS4:=jq (HS3.out.alloc (.cells #[.map (some bm)] 125));have HW4:=jq ((Below.refl W3.1.size W3).alloc (Nat.le_refl _) (.cells #[.map (some bm)] 125));have HC4:=jq (HC3.out.here HW4.out);have HBB:=jq (show bm<W3.1.size from HS3.out.lt);have HCB0:=jq (Sl.below HCB1.out (HW4.out.mono (Nat.le_of_lt HBB.out)));generalize W3.alloc _=W4 at*;generalize W3.1.size=bb at*;clear H1 HC1 HS3 HG3 H3 HC3 HW4;have hz:(W4.alloc (.cells #[.string ⟨src.toArray⟩] 9)).heap.size=W4.1.size+1:=by simp
 have ho6:=Tls.of_own (Own.lit (base:=W4.1.size) (enc:=fun x:Pt=>[ptV x]) (k:=1) (W4.alloc (.cells #[.string ⟨src.toArray⟩] 9)) #[ptV (some ⟨W4.1.size,0,none⟩,1,[src])] 32 [(some ⟨W4.1.size,0,none⟩,1,[src])] rfl (fun _=>rfl) (by simp) (by simp[maxLen])) (by simp);rw[hz] at ho6;have HT6:=jq (show Tls ptV 32 ((W4.alloc (.cells #[.string ⟨src.toArray⟩] 9)).alloc (.cells #[.slice (some ⟨W4.1.size,0,none⟩) 1 1] 32)) W4.1.size (.slice (some ⟨W4.1.size+1,0,none⟩) 1 1) [(some ⟨W4.1.size,0,none⟩,1,[src])] from ho6);have HL6:=jq (show Below W4.1.size W4 ((W4.alloc (.cells #[.string ⟨src.toArray⟩] 9)).alloc (.cells #[.slice (some ⟨W4.1.size,0,none⟩) 1 1] 32)) from((Below.refl _ _).alloc (Nat.le_refl _) _).alloc (by simp) _)
 have HP6:=jq (show PtOk W4.1.size ((W4.alloc (.cells #[.string ⟨src.toArray⟩] 9)).alloc (.cells #[.slice (some ⟨W4.1.size,0,none⟩) 1 1] 32)) (some ⟨W4.1.size,0,none⟩,1,[src]) from
  ⟨W4.1.size,0,_,rfl,Nat.le_refl _,(Below.heap_alloc _ _ _ (by simp)).trans (heap_alloc_new W4 (.cells #[.string ⟨src.toArray⟩] 9)),fun i s hi=>by
   cases i with
   |zero=>simp at hi;subst hi;rfl
   |succ i=>simp at hi,by simp,fun s hs=>by simp at hs;subst hs;exact HSZ.out.1⟩)
 clear ho6 hz;go_upto_region 5 with (fail)
 generalize (W4.alloc (.cells #[.string ⟨src.toArray⟩] 9)).alloc (.cells #[.slice (some ⟨W4.1.size,0,none⟩) 1 1] 32)=W6 at*;have H6:=jq (HB4.out.here HL6.out);have HS6:=jq (HS4.out.here HL6.out);have HLM:=jq (show Below bm W4 W6 from HL6.out.mono (by have:=HBB.out;have:=HB4.out.lt 0 rfl;omega));have HBQ:=jq (show bb<W4.1.size/\w.1.size<=bm from⟨HB4.out.lt 0 rfl,HWB.out⟩);have HCB:=jq (show Vc W4 bm Ac codes.length codes from HCB0.out);generalize W4.1.size=B0 at*;clear HS4 HB4 HL6
 have HKM:=jq (show ∀c∈codes,c.length<=maxLen from fun c hc=>by
  obtain⟨y,hy⟩:=(HCM.out c).1 hc
  exact(HSH.out (c,y) hy).1)
 have HND:=jq (show codes.Nodup from HPW.out.imp fun {a b} h e=>by subst e;exact List.lt_irrefl _ h)
 obtain⟨T,hT,hTb⟩:∃T,1+(codes.length+1)*codes.length<=T/\T<=5000000000:=⟨_,Nat.le_refl _,by
  have h1:(codes.length+1)*codes.length<=20001*20000:=Nat.mul_le_mul (by have:=HCL.out;omega) HCL.out;omega⟩
 generalize hR:(fun x y=>(m (x,y)).isSome)=R at*;have HRQ:=jq hR;have HRR:=jq (show ∀x y,R x y=(m (x,y)).isSome from fun x y=>by rw[<-hR]);clear hR
 go_loopw [10,11,12,14,15,16] (fun o _ _ _ _ _ wr=>∃(qs:List Pt) (seen:List Ky) (ns fu:Nat),Hid (Kp w [(bb,#[.map (some bm)],125)] wr)/\Hid (Below bm W4 wr)/\Hid (SeenB wr bm ns seen)/\Hid (Tls ptV 32 wr B0 o qs)/\Hid (∀x∈qs,PtOk B0 wr x)/\
  Hid (bfs R codes tg fu (qs.map (·.2.2)) seen=bfs R codes tg (codes.length+1) [[src]] [src])/\Hid (qs.length+(codes.filter fun c=> !seen.contains c).length<=fu/\ns+fu*codes.length<=T/\fu<=codes.length+1/\∀x∈qs,x.2.2.length+fu<=codes.length+2)) (fun o _ _ _ _ _ wr=>ZiT o+Ziw bm codes wr)
 case atStart=>exact⟨[(some ⟨B0,0,none⟩,1,[src])],[src],1,codes.length+1,H6,HLM,HS6,HT6,(show ∀x∈[((some ⟨B0,0,none⟩,1,[src]):Pt)],PtOk B0 W6 x from fun x hx=>by rw[List.mem_singleton.1 hx];exact HP6.out),rfl,
  ⟨by have:=List.length_filter_le (fun c=> ![src].contains c) codes;simp only[List.length_singleton];omega,hT,Nat.le_refl _,fun x hx=>by rw[List.mem_singleton.1 hx];simp;omega⟩⟩
 case round=>
  clear H6 HLM HS6 HT6 HP6;obtain⟨qs,seen,ns,fu,H,HL,HS,HT,HP,HQ,HN⟩:=hrel
  cases qs with
  |nil=>
   obtain⟨g,off,c,rfl,_⟩:=HT.out.form
   dsimp only[List.length_nil]
   have HE:=jq (show bfs R codes tg (codes.length+1) [[src]] [src]=none by rw[<-HQ.out];cases fu<;>rfl);go_wp2_with fail
   first|go_ret|skip
   exact⟨none,0,[],codes,rfl,Sl.nil,HPW.out,HCM.out,by rw[HRQ.out,HE.out];rfl,Nat.zero_le _,H.out.bl⟩
  |cons x rest=>
   obtain⟨g,off,c,rfl,hgB,hgs,hlc,hcell⟩:=HT.out.form
   have d0:=hcell 0 x rfl;obtain⟨gp,op,cs,hpA,hpB,hpg,hpc,hpn,hpm⟩:=HP.out x (List.mem_cons_self ..)
   obtain⟨pA,pc,pl⟩:=x
   dsimp only at hpA hpc hpn hpm
   subst hpA;obtain⟨k,hk⟩:∃k,pl.length=k+1:=⟨pl.length-1,by have:=List.length_pos_iff.2 hpn;omega⟩
   obtain⟨y,hy⟩:∃y,pl[k]?=some y:=⟨_,List.getElem?_eq_getElem (by omega)⟩
   have hyl:pl.getLast?=some y:=by rw[List.getLast?_eq_getElem?,hk];exact hy
   have d1:=(cell_of_row wr gp (op+k) cs _ (0,0) hpg).trans (hpc k y hy);unfold ptV at d0
   dsimp only at d0
   rw[hk,Nat.add_zero] at d0;have HYL:=jq hyl;have HYM:=jq (hpm y (List.mem_of_getElem? hy));have HPK:=jq hk;have hkb:k<=100000:=by have h1:=HN.out.2.2.2 _ (List.mem_cons_self ..);have:=HCL.out;simp only at h1;omega
   have HPM:=jq hpm;have hk1:IntKind.i64.wrap (((k+1:Nat):Int)-1)=(k:Int):=by rw[show((k+1:Nat):Int)-1=(k:Int) by omega];exact IntWalk.i64_in _ (by omega)
   have hk2:((k+1:Nat):Int)-1=(k:Int):=by omega
   rw[List.length_cons] at hlc ⊢;obtain⟨lr,hlr⟩:∃lr,rest.length=lr:=⟨_,rfl⟩
   rw[hlr] at hlc ⊢;have HLR:=jq hlr;have i1:(0:Int)<((lr+1:Nat):Int):=by omega
   clear hcell hpB hpg hpc hpn hpm hy hyl hlr hk;go_upto_region 9 with (fail)
   clear d0 d1;have hfu:1<=fu:=by have h:=HN.out.1;rw[List.length_cons] at h;omega
   obtain⟨fv,rfl⟩:∃fv,fu=fv+1:=⟨fu-1,by omega⟩
   by_cases hyt:y=tg
   ·have hyt2:(y==tg)=true:=by simp[hyt]
    have HE:=jq (show bfs R codes tg (codes.length+1) [[src]] [src]=some pl by rw[<-HQ.out,List.map_cons,ZcP HYL.out,if_pos hyt]);have HST:=jq (show Vc wr wr.1.size (some ⟨gp,op,none⟩) (k+1) pl by have h:=(HP.out _ (List.mem_cons_self ..)).strs;dsimp only at h;rwa [HPK.out] at h);rw[<-HPK.out] at HST ⊢;clear hyt;go_wp2_with fail
    first|go_ret|skip
    exact⟨some ⟨gp,op,none⟩,pc,pl,codes,rfl,HST.out,HPW.out,HCM.out,by rw[HRQ.out,HE.out];rfl,by have h1:=HN.out.2.2.2 _ (List.mem_cons_self ..);have:=hln;dsimp only at h1;omega,H.out.bl⟩
   have hyt2:(y==tg)=false:=by simp[hyt]
   have HQ2:=jq (show bfs R codes tg fv (XN R pl y codes (rest.map (·.2.2),seen)).1 (XN R pl y codes (rest.map (·.2.2),seen)).2=bfs R codes tg (codes.length+1) [[src]] [src] by rw[<-HQ.out,List.map_cons,ZcP HYL.out,if_neg hyt])
   have HNL:=jq (show(Xz R codes y seen).length+(codes.filter fun c=> !(XN R pl y codes (rest.map (·.2.2),seen)).2.contains c).length=(codes.filter fun c=> !seen.contains c).length/\(XN R pl y codes (rest.map (·.2.2),seen)).1.length=lr+(Xz R codes y seen).length by
    rw[YT HND.out];have h:=ZbD (R:=R) (codes:=codes) (seen:=seen) (x:=y)
    dsimp only
    rw[List.length_append,List.length_map,List.length_map,HLR.out];exact⟨by omega,rfl⟩)
   generalize hex:XN R pl y codes (rest.map (·.2.2),seen)=ex at*;have HEX:=jq hex;have HM0:=jq (Zec HS.out HKM.out);have HPX:=jq (HP.out _ (List.mem_cons_self ..));clear hyt hex;go_wp2_with fail
   go_loopw [10,14,15,16,46] (fun o _ _ _ j wr=>∃(jn:Nat) (qs:List Pt) (sn:List Ky) (n2:Nat),jn<=codes.length/\j=.int .i64 jn/\Hid (Kp w [(bb,#[.map (some bm)],125)] wr)/\Hid (Below bm W4 wr)/\Hid (SeenB wr bm n2 sn)/\Hid (Tls ptV 32 wr B0 o ((some ⟨gp,op,none⟩,pc,pl)::qs))/\
    Hid (∀x∈((some ⟨gp,op,none⟩,pc,pl):Pt)::qs,PtOk B0 wr x)/\Hid (XN R pl y (codes.drop jn) (qs.map (·.2.2),sn)=ex)/\Hid (n2<=ns+jn/\qs.length<=lr+jn/\∀x∈qs,x.2.2.length+fv<=codes.length+2)) (fun _ _ _ _ j _=>codes.length-(intOf j).toNat)
   case atStart=>exact⟨0,rest,seen,ns,Nat.zero_le _,rfl,H,HL,HS,(show Tls _ _ _ _ _ _ by have h:=HT.out;rw[List.length_cons,HLR.out] at h;exact h),HP,HEX.out,⟨Nat.le_refl _,by have:=HLR.out;omega,fun x hx=>by have:=HN.out.2.2.2 x (List.mem_cons_of_mem _ hx);omega⟩⟩
   case round=>
    clear H HL HS HT HP;obtain⟨jn,qs,sn,n2,hjn,rfl,H,HL,HS,HT,HP,HX,HK⟩:=hrel
    have HFM:=jq (show maxLen>=5000000002 by decide)
    have HN2:=jq (show n2+1<maxLen by
     have h1:=HK.out.1;have h2:=HN.out.2.1;have h3:=HFM.out;rw[Nat.succ_mul] at h2;omega)
    have hcl:=HCL.out
    by_cases hlt:jn<codes.length
    ·obtain⟨bc,oc,nx,rfl,hbc,hnx,dc⟩:=Sl.st (Sl.below HCB.out HL.out) hlt
     have HNX:=jq hnx;have HES:=jq (Zgx (R:=R) (p:=pl) (y:=y) hnx);have HNM:=jq (HKM.out nx (List.mem_of_getElem? hnx));have HRY:=jq (HRR.out y nx);have hlk:=(HB.out wr H.out.bl).lookOk (t:=80) (e:=28) Tryz.underlying80 (YU wr) (x:=(y,nx)) ⟨HYM.out,HNM.out⟩;have i2:(0:Int)<=(jn:Int):=by omega
     have i3:(jn:Int)<(codes.length:Int):=by omega
     clear hnx hbc;have HBA:=jq (fun f0=>H.out.alloc (.cells (XG f0) 28));have HLA:=jq (fun f0=>HL.out.alloc (show bm<=wr.1.size by have:=HS.out.lt;omega) (.cells (XG f0) 28));have HSA:=jq (fun f0=>HS.out.alloc (.cells (XG f0) 28));have HTA:=jq (fun f0=>HT.out.here ((Below.refl wr.1.size wr).alloc (Nat.le_refl _) (.cells (XG f0) 28)));have HPA:=jq (fun f0 x hx=>(HP.out x hx).here ((Below.refl wr.1.size wr).alloc (Nat.le_refl _) (.cells (XG f0) 28)));unfold XG at HBA HLA HSA HTA HPA
     cases hmy:m (y,nx) with
     |none=>
      rw[hmy] at hlk HRY;simp only[pv,Qj,S,Option.map_none,Option.getD_none,Option.isSome_none] at hlk HRY;have HX2:=jq (show XN R pl y (codes.drop (jn+1)) (qs.map (·.2.2),sn)=ex by rw[<-HX.out,HES.out,HRY.out];rfl);have HB5:=jq (HBA.out Fr.zero);have HL5:=jq (HLA.out Fr.zero);have HS5:=jq (HSA.out Fr.zero);have HT5:=jq (HTA.out Fr.zero);have HP5:=jq (HPA.out Fr.zero);go_upto_region 15 with (fail)
      generalize wr.alloc _=W5 at*;clear hlk dc HBA HLA HSA HTA HPA hmy;go_wp2_with fail
      go_roundw
      case rel=>exact⟨jn+1,qs,sn,n2,by omega,by go_num,HB5,HL5,HS5,HT5,HP5,HX2,⟨by have:=HK.out.1;omega,by have:=HK.out.2.1;omega,HK.out.2.2⟩⟩
      case measure=>simp[intOf];omega
     |some rr=>
      rw[hmy] at hlk HRY;simp only[pv,Qj,S,Option.map_some,Option.getD_some,Option.isSome_some] at hlk HRY;rw[HRY.out] at HES;have HB5:=jq (HBA.out rr);have HL5:=jq (HLA.out rr);have HS5:=jq (HSA.out rr);have HT5:=jq (HTA.out rr);have HP5:=jq (HPA.out rr);go_upto_region 15 with (fail)
      generalize wr.alloc _=W5 at*;clear hlk dc HBA HLA HSA HTA HPA hmy H HL HS HT HP;have HFR:=jq (ZcN nx bb bm n2 sn W5 (HB5.out.at_ 0 rfl) HS5.out (by have:=HN2.out;omega) HNM.out);have eg:∀args w,(callFunc 92 args).run Tryz.prog w=.ok (.enter 92 args) w:=enters_of Tryz.func92 (by kernel_rfl) rfl
      have HAL:=jq (show ∀w8,SeenB w8 bm (n2+1) (nx::sn)->W5.grownBy w8 (some bm)->Kp w [(bb,#[.map (some bm)],125)] w8/\Below bm W4 w8/\Tls ptV 32 w8 B0 u10 ((some ⟨gp,op,none⟩,pc,pl)::qs)/\∀x∈((some ⟨gp,op,none⟩,pc,pl):Pt)::qs,PtOk B0 w8 x from fun w8 _ hg8=>
       ⟨HB5.out.grow hg8 HWB.out (fun b hb=>by have:=HBB.out;rw[List.mem_singleton.1 hb];simp only;omega),
        HL5.out.trans (QR hg8 (by have:=HS5.out.lt;omega) (Nat.le_refl _) (fun r e=>by injection e with e;omega)),
        HT5.out.grown hg8 (by
         obtain⟨g2,_,_,e,hB2,_⟩:=HT5.out.form
         rw[e];have:=HBB.out;have:=HBQ.out
         simp[Value.ownBlock];omega),
        fun x hx=>(HP5.out x hx).kept hg8 (fun g2 cs2 e _=>by injection e with e;have:=HBB.out;have:=HBQ.out;omega)⟩)
      clear HB5 HL5 HS5 HT5 HP5
      by_cases hsn:nx∈sn
      ·have HX2:=jq (show XN R pl y (codes.drop (jn+1)) (qs.map (·.2.2),sn)=ex by rw[<-HX.out,HES.out];simp[hsn]);have HCG:=jq (show ∀s,s∈nx::sn↔s∈sn from fun s=>⟨fun h=>(List.mem_cons.1 h).elim (fun e=>e▸hsn) id,fun h=>List.mem_cons_of_mem _ h⟩);rw[show(!decide (nx∈sn))=false by simp[hsn]] at HFR;clear hsn;go_wp2_with (go_at_fn 92;refine(HFR.out).mono ?_;rintro e w8 ⟨rfl,hs8,hg8⟩;have HQ8:=jq (HAL.out w8 hs8 hg8);have HS9:=jq (hs8.congr HCG.out);clear hs8 hg8)
       go_roundw
       case rel=>exact⟨jn+1,qs,sn,n2+1,by omega,by go_num,HQ8.out.1,HQ8.out.2.1,HS9,HQ8.out.2.2.1,HQ8.out.2.2.2,HX2,⟨by have:=HK.out.1;omega,by have:=HK.out.2.1;omega,HK.out.2.2⟩⟩
       case measure=>simp[intOf];omega
      ·have HX2:=jq (show XN R pl y (codes.drop (jn+1)) (qs.map (·.2.2)++[pl++[nx]],nx::sn)=ex by rw[<-HX.out,HES.out];simp[hsn]);rw[show(!decide (nx∈sn))=true by simp[hsn]] at HFR;clear hsn;go_wp2_with (go_at_fn 92;refine(HFR.out).mono ?_;rintro e w8 ⟨rfl,hs8,hg8⟩;have HQ8:=jq (HAL.out w8 hs8 hg8);have HS8:=jq hs8;clear hs8 hg8)
       have HP0:=jq (HQ8.out.2.2.2 _ (List.mem_cons_self ..));have HC9:=jq (Zdx ⟨gp,op,none⟩ (k+1) pc pl w8 (by have h:=HP0.out.strs;dsimp only at h;rwa [HPK.out] at h) (by omega));refine HC9.out.mono ?_;rintro e w9 ⟨A9,c9,rfl,ho9,hb9⟩
       have HB8:=jq (show B0<=w8.1.size by
        obtain⟨g2,_,_,_,h2,h3,_⟩:=HP0.out
        have:=(Array.getElem?_eq_some_iff.1 h3).1
        omega)
       have HL9:=jq (hb9.alloc hb9.size (.cells #[.string ⟨nx.toArray⟩] 9));have HOA:=jq (ho9.alloc (.cells #[.string ⟨nx.toArray⟩] 9));have HSL:=jq (Zd6 (heap_alloc_new w9 (.cells #[.string ⟨nx.toArray⟩] 9)))
       have HO9:=jq (show ∀r,(Value.slice A9 pl.length c9).ownBlock=some r->w8.1.size<=r from fun r e=>by
        cases A9 with
        |none=>cases e
        |some a=>cases e;exact ho9.room.2.2 a rfl)
       have HQL:=jq (show(((some ⟨gp,op,none⟩,pc,pl):Pt)::qs).length+1<=100000000000 by rw[List.length_cons];have h1:=HK.out.2.1;have h2:=HN.out.1;have h3:=HN.out.2.2.1;have h4:=HLR.out;rw[List.length_cons] at h2;omega);have HPL:=jq (show pl.length+1<=100000000000 by have:=HPK.out;omega);have HPM2:=jq (show ∀s∈pl++[nx],s.length<=maxLen from fun s hs=>(List.mem_append.1 hs).elim (HPM.out s) fun h=>by rw[List.mem_singleton.1 h];exact HNM.out);obtain⟨np,hnp⟩:∃np,pl++[nx]=np:=⟨_,rfl⟩
       have HNP:=jq hnp;have HNPL:=jq (show pl.length+1=np.length by rw[<-hnp,List.length_append];rfl);have HNP0:=jq (show np≠[] by rw[<-hnp];simp);rw[hnp] at HPM2 HX2;clear hnp;clear ho9 hb9 HFR HAL HC9
       go_wp2_with (first
        |(at_builtin;refine QJ _ rfl (.tmp 66) (.tmp 68) _ rfl Zam XY ZbO (base:=w8.1.size) (.slice A9 pl.length c9) pl rfl HOA.out _ _ 1 1 [nx] rfl HSL.out HPL.out HL9.out.size ?_
          intro A10 c10 w10 ho10 hg10 _;rw[HNPL.out] at ho10 ⊢;rw[HNP.out] at ho10;have HL10:=jq (HL9.out.trans (QR hg10 HL9.out.size (Nat.le_refl _) HO9.out));have HN10:=jq (show PtOk B0 w10 (A10,c10,np) from PtOk.of_own (ho10.base_ HB8.out) HNP0.out HPM2.out);have HAB:=jq ((Below.refl w10.1.size w10).alloc (Nat.le_refl _) (.cells #[.slice A10 np.length c10] 32));have HTB:=jq ((HQ8.out.2.2.1.here HL10.out).here HAB.out);have HNB:=jq (HN10.out.here HAB.out);have HSB:=jq (show Sl (fun x:Pt=>[ptV x]) 1 (w10.alloc (.cells #[.slice A10 np.length c10] 32)) (w10.alloc (.cells #[.slice A10 np.length c10] 32)).heap.size (some ⟨w10.1.size,0,none⟩) 1 [(A10,c10,np)] from Ziv (x:=(A10,c10,np)) (heap_alloc_new w10 (.cells #[.slice A10 np.length c10] 32)));have HBB0:=jq (show B0<=(w10.alloc (.cells #[.slice A10 np.length c10] 32)).heap.size from Nat.le_trans HB8.out (Nat.le_trans HL10.out.size HAB.out.size));clear ho10 hg10)
        |(at_builtin;refine Zdy rfl (.tmp 64) (.tmp 70) _ rfl Zbe ZhQ rfl HTB.out _ _ _ rfl HSB.out HQL.out HBB0.out ?_
          intro v11 w11 hT11 hg11;have HT11:=jq hT11;have HG11:=jq (show World.grownBy _ w11 u10.ownBlock from hg11);clear hT11 hg11))
       have hg11:=HG11.out
       obtain⟨g2,hgv,hgB2,hgh⟩:∃g2,u10.ownBlock=some g2/\B0<=g2/\∀cs2,(w10.alloc (.cells #[.slice A10 np.length c10] 32)).heap[g2]?≠some (.cells cs2 9 (0,0)):=by
        obtain⟨g2,o2,cc2,cur2,e2,hB2,hh2,_⟩:=HTB.out
        refine⟨g2,by rw[e2];rfl,hB2,fun cs2 h2=> ?_⟩;rw[hh2] at h2;injection h2 with h2;injection h2 with _ h2;exact absurd h2 (by decide)
       rw[hgv] at hg11;have HSQ:=jq (show bb<g2/\bm<g2 by have:=HBB.out;have:=HBQ.out;omega);have HB11:=jq (((HQ8.out.1.here HL10.out).here HAB.out).grow hg11 (by have:=HWB.out;have:=HSQ.out;omega) (fun b hb=>by rw[List.mem_singleton.1 hb];have:=HSQ.out;simp only;omega));have HLL:=jq (HL10.out.trans (HAB.out.mono HL10.out.size));have HL11:=jq ((HQ8.out.2.1.trans (HLL.out.mono (by have:=HS8.out.lt;omega))).trans (QR hg11 (by have:=HBB0.out;have:=HBB.out;have:=HBQ.out;omega) (Nat.le_refl _) (fun r e=>by injection e with e;have:=HSQ.out;omega)));have HS11:=jq (((HS8.out.here HL10.out).here HAB.out).kept hg11 (fun e=>by injection e with e;have:=HSQ.out;omega));have HP11:=jq (fun x hx=>(((HQ8.out.2.2.2 x hx).here HL10.out).here HAB.out).kept hg11 (fun g3 cs3 e h3=>by injection e with e;subst e;exact absurd h3 (hgh cs3)));have HN11:=jq (HNB.out.kept hg11 (fun g3 cs3 e h3=>by injection e with e;subst e;exact absurd h3 (hgh cs3)));clear HG11 hg11 hgv hgB2 hgh HQ8 HS8 HL9 HOA HSL HO9 HTB HNB HSB HAB HL10 HN10 HLL;generalize w10.alloc _=w12 at*
       go_roundw
       case rel=>exact⟨jn+1,qs++[(A10,c10,np)],nx::sn,n2+1,by omega,by go_num,HB11,HL11,HS11,(show Tls _ _ _ _ _ _ from HT11.out),(show ∀x∈((some ⟨gp,op,none⟩,pc,pl):Pt)::(qs++[(A10,c10,np)]),PtOk B0 w11 x from fun x hx=>by
        rw[<-List.cons_append] at hx
        rcases List.mem_append.1 hx with hx|hx
        ·exact HP11.out x hx
        ·rw[List.mem_singleton.1 hx];exact HN11.out),(by rw[List.map_append];exact HX2),
        ⟨by have:=HK.out.1;omega,by have:=HK.out.2.1;rw[List.length_append,List.length_singleton];omega,fun x hx=>by
         rcases List.mem_append.1 hx with hx|hx
         ·exact HK.out.2.2 x hx
         ·rw[List.mem_singleton.1 hx];have h1:=HN.out.2.2.2 _ (List.mem_cons_self ..);have h2:=HNPL.out
          dsimp only at h1 ⊢
          omega⟩⟩
       case measure=>simp[intOf];omega
    ·obtain rfl:jn=codes.length:=by omega
     have HXE:=jq (show(qs.map (·.2.2),sn)=ex by
      have h:=HX.out;rw[List.drop_eq_nil_of_le (Nat.le_refl _)] at h;exact h)
     obtain⟨gv,ov,cv,rfl,hcv,htv⟩:=HT.out.pop
     have HTV:=jq htv;have HM1:=jq (Zec HS.out HKM.out);have hsl:=fun W=>ZhR W gv ov (qs.length+1) cv (by omega)
     rw[Nat.add_sub_cancel] at hsl;clear htv;go_wp2_with fail
     go_roundw
     case rel=>
      refine⟨qs,sn,n2,fv,H,HL,HS,HTV,(show ∀x∈qs,PtOk B0 wr x from fun x hx=>HP.out x (List.mem_cons_of_mem _ hx)),(by have h:=HQ2.out;rw[<-HXE.out] at h;exact h),?_⟩;have h1:=HK.out;have h2:=HN.out;have h3:=HNL.out;rw[<-HXE.out] at h3
      dsimp only at h3
      rw[List.length_map] at h3;rw[List.length_cons,Nat.succ_mul,HLR.out] at h2;exact⟨by omega,by omega,by omega,fun x hx=>h1.2.2 x hx⟩
     case measure=>
      have h3:=HNL.out;rw[<-HXE.out] at h3
      dsimp only at h3
      rw[List.length_map] at h3;rw[HM1.out,HM0.out];simp only[ZiT];omega
theorem Zap(b n:Nat)(m:Ky×Ky->Option Fr)(codes:List Ky)(src tg:Ky)(w:World)(hp:Env w)(hb:PmB w b n (fun x=>(m x).map Qj))(hn:n<=20000)(hsh:∀x,(m x).isSome=true->JY x)(hs1:src.length<=maxLen)(hs2:tg.length<=maxLen)(hc:CdM m codes):
 Calls Tryz.prog 49 #[.map (some b),.string ⟨src.toArray⟩,.string ⟨tg.toArray⟩] w fun e w'=>∃A c,e=.returned (.slice A (XK m codes src tg).length c)/\Vc w' w'.1.size A (XK m codes src tg).length (XK m codes src tg)/\(XK m codes src tg).length<=n+1/\Below w.1.size w w':=by
 refine(ZdB b n m src tg w hp hb hn hsh hs1 hs2).mono ?_;rintro e w' ⟨A,c,l,cs,rfl,h1,h2,h3,h4,h5,h6⟩;obtain rfl:cs=codes:=Zan ⟨h2,h3⟩ hc;subst h4;exact⟨A,c,rfl,h1,h5,h6⟩
end
end Go.Proofs.YtokjnjdbnabchaaGreatDoor
