/- Stp. -/
import Derived.Test.YtmamnnaiogidaaaGreatDoorQGU38
set_option maxRecDepth 100000
set_option maxHeartbeats 8000000
namespace Go.Proofs.YtmamnnaiogidaaaGreatDoor
open Go.Lib renaming hid→jq
section
open Go.RowKit Go.Shelf
attribute [local go_sem] Oper.semAt_some
attribute [local go_sem ↓] Go.wp_at_zero Go.wp_at_succ VQ
theorem ZlW{m:Mp}{x:Plan}{old:List Lot}{z:Nat×Lot}(h:z∈QE m x old):z.1<old.length:=by
 unfold QE QM at h;obtain⟨i,hi,hz⟩:=List.mem_filterMap.1 h
 have hi:=List.mem_range.1 hi
 cases ho:old[i]? with
 |none=>rw[ho] at hz;cases hz
 |some y=>
  rw[ho] at hz;simp only at hz
  split at hz
  ·cases hz
  ·injection hz with hz;rw[<-hz];exact hi
theorem BlkB.turned{W W':World}{B p:Nat}{cs:Array Value}{T:TypeId}{row:Option Nat}(h:BlkB W p cs T)(hg:W.grownBy W' row)(hr:ZaC B W row):BlkB W' p cs T:=by
 refine(hg.block p h.lt (fun e=> ?_)).trans h;obtain⟨_,o,ho,hc⟩:=hr p e.symm
 unfold BlkB at h;rw[h] at ho;injection ho with ho;rw[<-ho] at hc
 cases hc
theorem BlkB.drewS'{W:World}{p:Nat}{cs:Array Value}{T:TypeId}(h:BlkB W p cs T):BlkB W.drew p cs T:=h
theorem ZlX(s:Stp):(Yy s).length<=1:=by
 unfold Yy
 split<;>simp
theorem Zob:(Tryz.prog.info? 9).map (fun i=>(i.zero,i.size,i.bytes))=some (some (.string ⟨#[]⟩),1,16):=by kernel_rfl
theorem ZhQ(v:PlV)(x:Plan)(old:List Lot)(pn pm pf pp n₀:Nat)(w:World)(hp:Env w)(hM:PlM w n₀ v x old pn pm pf pp)(hn₀:n₀<=w.1.size)(hz:PlSz2 20000 x)(hn:old.length<=1000)(hc:v.m.cause.length<=20000):
 Calls Tryz.prog 68 #[.agg (plA v).toArray] w (RetOwn S6 6 173 w.1.size w (Zba v.m x old)):=by
 rw[Yt];obtain⟨N,hN⟩:∃N,N=old.length:=⟨_,rfl⟩
 have hon:v.on=N:=by rw[hN];exact hM.len
 obtain⟨W5,hW5⟩:∃W5,W5=((((w.alloc (.cells (QN v) 117)).alloc (.cells #[.slice none 0 0] 34)).alloc (.cells (VC (toP N [])) 9)).alloc (.cells #[.slice (some ⟨w.1.size+1+1,0,none⟩) N N] 175)).alloc (.cells (QN v) 117):=⟨_,rfl⟩
 have b0:BlkB W5 w.1.size (QN v) 117:=by rw[hW5];exact((((BlkB.alloc (heap_alloc_new w _) _).alloc _).alloc _).alloc _)
 have b1:Box W5 (w.1.size+1) 34 (.slice none 0 0):=by
  rw[hW5];have:=(((Box.new (w.alloc (.cells (QN v) 117)) 34 (.slice none 0 0)).alloc (.cells (VC (toP N [])) 9)).alloc (.cells #[.slice (some ⟨w.1.size+1+1,0,none⟩) N N] 175)).alloc (.cells (QN v) 117)
  simpa using this
 have b2:BlkB W5 (w.1.size+1+1) (VC (toP N [])) 9:=by
  rw[hW5];have:BlkB (((w.alloc (.cells (QN v) 117)).alloc (.cells #[.slice none 0 0] 34)).alloc (.cells (VC (toP N [])) 9)) ((w.alloc (.cells (QN v) 117)).alloc (.cells #[.slice none 0 0] 34)).heap.size (VC (toP N [])) 9:=heap_alloc_new _ _
  simp only[World.size_alloc] at this;exact(this.alloc _).alloc _
 have b3:Box W5 (w.1.size+1+1+1) 175 (.slice (some ⟨w.1.size+1+1,0,none⟩) N N):=by
  rw[hW5];have:=(Box.new (((w.alloc (.cells (QN v) 117)).alloc (.cells #[.slice none 0 0] 34)).alloc (.cells (VC (toP N [])) 9)) 175 (.slice (some ⟨w.1.size+1+1,0,none⟩) N N)).alloc (.cells (QN v) 117)
  simpa using this
 have b4:BlkB W5 (w.1.size+1+1+1+1) (QN v) 117:=by
  rw[hW5];have:BlkB (((((w.alloc (.cells (QN v) 117)).alloc (.cells #[.slice none 0 0] 34)).alloc (.cells (VC (toP N [])) 9)).alloc (.cells #[.slice (some ⟨w.1.size+1+1,0,none⟩) N N] 175)).alloc (.cells (QN v) 117)) ((((w.alloc (.cells (QN v) 117)).alloc (.cells #[.slice none 0 0] 34)).alloc (.cells (VC (toP N [])) 9)).alloc (.cells #[.slice (some ⟨w.1.size+1+1,0,none⟩) N N] 175)).heap.size (QN v) 117:=heap_alloc_new _ _
  simpa only[World.size_alloc] using this
 have hbW:Below w.1.size w W5:=by
  rw[hW5];exact(((((Below.refl _ _).alloc (Nat.le_refl _) _).alloc (by simp) _).alloc (by simp;omega) _).alloc (by simp;omega) _).alloc (by simp;omega) _
 have hs5:W5.1.size=w.1.size+5:=by rw[hW5];simp
 have HSEQ:=jq (JN 4 (by omega) (fun b=>b≠w.1.size+1+1/\b<w.1.size+5) (w.1.size+1+1+1+1) n₀ v x old pn pm pf pp W5 (hp.here hbW) b4 (hM.below (hbW.mono hn₀)) hz (by omega) (by omega) hc (fun b hb=>⟨by omega,by omega⟩) ⟨by omega,by omega⟩ (Zb8 hp (fun b hb=>⟨by omega,by omega⟩)));have hmk:=run_make_row' (P:=Tryz.prog) 175 9 (.string ⟨#[]⟩) 16 Tryz.underlying175 Zob rfl .i64 .i64 N (by omega) (by omega);rw[XN [],ZjG] at hmk;have HFR:=jq (fun W=>ZeQ v W);rw[Yt] at HFR
 have hld:∀o1 o2 o3,(Zcf (.pointer (some ⟨w.1.size,0,none⟩))).run Tryz.prog ((((w.alloc (.cells (QN v) 117)).alloc o1).alloc o2).alloc o3)=.ok (.agg (QN v)) ((((w.alloc (.cells (QN v) 117)).alloc o1).alloc o2).alloc o3):=fun o1 o2 o3=>
  XO (((BlkB.alloc (heap_alloc_new w _) _).alloc _).alloc _) (Zay v)
 have E10:=jq (show(QN v)[10]?=some (.bool v.m.keep) from rfl);have E0:=jq (show(QN v)[0]?=some (.string ⟨v.m.cause.toArray⟩) from rfl);have E12:=jq (show(QN v)[12]?=some (.string ⟨(Qa x.parts).toArray⟩) by rw[<-hM.parts];rfl);have E15:=jq (show(QN v)[15]?=some (.slice (some ⟨pn,0,none⟩) N N) by rw[<-hon,<-hM.en];rfl);have E17:=jq (show(QN v)[17]?=some (.slice (some ⟨pf,0,none⟩) N N) by rw[<-hon,<-hM.ef];rfl);have E11:=jq (show(QN v)[11]?=some (.slice v.oA N v.oc) by rw[<-hon];rfl);have HP:=jq hp;have HM:=jq hM;have HN0:=jq hn₀;have HZ:=jq hz;have HNL:=jq hn;have HCL:=jq hc;have HON:=jq hon;have HNN:=jq hN;have B0:=jq b0;have B1:=jq b1;have B2:=jq b2;have B3:=jq b3;have HBW:=jq hbW;have HS5:=jq hs5;have HWE:=jq hW5;have HPO:=jq (show RetOwn S6 6 173 w.1.size w (Zba v.m x old)=fun e w'=>∃A c,e=.returned (.slice A (Zba v.m x old).length c)/\Own S6 6 173 w' w.1.size (.slice A (Zba v.m x old).length c) (Zba v.m x old)/\Below w.1.size w w' from rfl);generalize RetOwn S6 6 173 w.1.size w (Zba v.m x old)=post at*;have HNM:=jq (show N<=1000 by omega);have hNm:=HNM.out;have ES:=jq (Zay v);have e11:=E11.out;generalize hpb:QN v=pb at*;have HPB:=jq hpb;generalize hoA:v.oA=oA at*;generalize v.oc=oc at*;have HOA:=jq hoA;clear hp hM hn₀ hz hn hc b0 b1 b2 b3 b4 hbW hs5 hW5 hon hN hpb hoA;refine(callsIn_wide (n:=5)).1 ?_;refine callsIn_of_wp_marks Tryz.func68 rfl trivial ?_ rfl;simp only[Tryz.ntmps68,List.size_toArray,List.length_cons,List.length_nil,Nat.reduceAdd,Nat.reduceSub,Array.replicate_succ,Array.replicate_zero,List.push_toArray,List.append_toArray,List.nil_append,List.cons_append]
 gi_wp2_with fail
 refine⟨trivial,?_⟩;refine(callsIn_wide.2 (HFR.out _)).mono ?_;rintro e w1 ⟨rfl,rfl⟩;rw[<-HWE.out]
 gi_wp2_with fail
 refine wpIn_rangeFunc_ownH (α:={z:Nat×Lot//z∈QE v.m x old}) (F:=Fence.wide) (n:=5) rfl (by omega) (gf:=107) (lb:=#[.pointer (some ⟨w.1.size+1+1+1+1,0,none⟩)]) rfl trivial (enters_of Tryz.func107 (by kernel_rfl) rfl)
  HSEQ.out (fun h k=>h.trans k) ?hKb (Below.refl _ _) (fun _=>rfl)
  (fun(pre:List {z:Nat×Lot//z∈QE v.m x old}) W=>BlkB W w.1.size pb 117/\Box W (w.1.size+1) 34 (.slice none 0 0)/\BlkB W (w.1.size+1+1) (VC (toP N (Xn pre))) 9/\Box W (w.1.size+1+1+1) 175 (.slice (some ⟨w.1.size+1+1,0,none⟩) N N)/\Below w.1.size w W/\W5.1.size<=W.1.size) (fun _ _ _=>False)
  (fun pre W W' row ⟨h1,h2,h3,h4,h5,h6⟩ hg hr=>⟨h1.turned hg hr,h2.turned hg hr,h3.turned hg hr,h4.turned hg hr,Qu h5 hg h5.size (fun g e=>by have:=(hr g e).1;have:=HS5.out;omega),Nat.le_trans h6 hg.size⟩)
  (fun _ _ _ _ _ h _ _=>h) ⟨B0.out,B1.out,B2.out,B3.out,HBW.out,Nat.le_refl _⟩
  (fun x a' W=>∃Bz,w.1.size+4<Bz/\BlkB W Bz (XU x.1.2) 50/\a'={tmps:=#[Value.agg pb,.pointer (some ⟨w.1.size,0,none⟩),.slice none 0 0,.pointer (some ⟨w.1.size+1,0,none⟩),.func (.func 110) #[] #[.pointer (some ⟨w.1.size+1,0,none⟩)],.pointer (some ⟨w.1.size+1+1+1,0,none⟩),.int .i64 x.1.1,.pointer (some ⟨Bz,0,none⟩),undef,undef,undef,.func (.func 110) #[] #[.pointer (some ⟨w.1.size+1,0,none⟩)],.pointer (some ⟨w.1.size,11,none⟩),.slice oA N oc,.int .i64 N,.slice (some ⟨w.1.size+1+1,0,none⟩) N N,.agg pb,.func (.func 107) #[] #[.pointer (some ⟨w.1.size+1+1+1+1,0,none⟩)],.int .i64 x.1.1,XV x.1.2,undef,undef,undef,undef,undef,undef,undef,undef,undef,undef,undef,undef,undef,undef,undef,undef,undef,undef,undef,undef,undef,undef,undef,undef,undef,undef,undef,undef,undef,undef,undef,undef,undef,undef,undef,undef,undef,undef,undef,undef,undef,undef,undef,undef,undef,undef,undef,undef,undef,undef,undef,undef,undef,undef,undef,undef,undef,undef,undef,undef,undef,undef,undef,undef,undef,undef,undef,undef],defers:=[]})
  (fun x a' _ W W' row ⟨Bz,h1,h2,h3⟩ hg hr=>⟨Bz,h1,h2.turned hg hr,h3⟩) ?assign ?body ?done ?stop
 case hKb=>
  intro W l o o' hl _ _ _;exact KeepS.put (fun e=>by have:=HS5.out;omega) _
 case stop=>intro D c pre W _ _ h;exact h.elim
 case assign=>
  rintro lr pre x W K ⟨h1,h2,h3,h4,h5,h6⟩ hK
  dsimp only[XV,S]
  gi_wp2
  refine hK _ _ ((KeepsOthers.alloc _ _).from _) (KeepS.below ((Below.refl _ W).alloc (Nat.le_refl _) _)) ⟨h1.alloc _,h2.alloc _,h3.alloc _,h4.alloc _,h5.alloc h5.size _,by simp;omega⟩ ⟨W.1.size,by have:=HS5.out;omega,heap_alloc_new W _,rfl⟩
 case body=>
  rintro lr pre x a' W hlr ⟨rr,hrr⟩ ⟨h1,h2,h3,h4,h5,h6⟩ ⟨Bz,hBz,bZ,rfl⟩ hlen;have HSN:=jq (Jn pre x);have HTP:=jq (ZgJ N (Xn pre) x.1);have hxl:x.1.1<N:=by have:=ZlW x.2;have:=HNN.out;omega
  have H1:=jq h1;have H2:=jq h2;have H3:=jq h3;have H4:=jq h4;have H5:=jq h5;have H6:=jq h6;have ct:=h4.cell;have cz:W.cell? ⟨Bz,0,none⟩=some (.string ⟨x.1.2.id.toArray⟩):=bZ.cell 0 rfl;have ft:=h3.frozen x.1.1;have HI:Hid (((w.1.size+1+1:Nat)≠0)):=jq (by omega);have i1:(0:Int)<=(x.1.1:Int):=by omega
  have i2:(x.1.1:Int)<(N:Int):=by omega
  have cc:∃u,W.cell? ⟨w.1.size+1+1,x.1.1,none⟩=some u:=by
   have hl:=Zix N (Xn pre);exact⟨_,h3.cell x.1.1 (ZbJ _ _ _ (List.getElem?_eq_getElem (by omega)))⟩
  obtain⟨u,cu⟩:=cc
  clear h1 h2 h3 h4 h5 h6 hrr hlen
  gi_wp2
  refine⟨(KeepsOthers.setCell _ _ _).from _,KeepS.set (S:=fun b=>b≠w.1.size+1+1/\b<w.1.size+5) (p:=⟨w.1.size+1+1,x.1.1,none⟩) (fun e=>e.1 rfl) _,H1.out.far (a:=⟨w.1.size+1+1,x.1.1,none⟩) (by simp;omega) _,H2.out.far (p:=⟨w.1.size+1+1,x.1.1,none⟩) (by simp) _,?_,H4.out.far (p:=⟨w.1.size+1+1,x.1.1,none⟩) (by simp) _,H5.out.setCell (p:=⟨w.1.size+1+1,x.1.1,none⟩) (by simp;omega) _,by simp;exact H6.out⟩;rw[HSN.out,HTP.out,<-ZgL];exact H3.out.set _ _
 case done=>
  rintro D ys W hD hS ⟨h1,h2,h3,h4,h5,h6⟩ hK;have HYS:=jq (show Xn ys=QE v.m x old from hS);rw[HYS.out,HNN.out,Znh,<-HNN.out] at h3;have H0:=jq h1;have H1:=jq h2;have H2:=jq h3;have H3:=jq h4;have H5:=jq h5;have H6:=jq h6;have HD:=jq hK;have HDL:=jq hD;have c11:=h1.cell 11 E11.out;clear h1 h2 h3 h4 h5 h6 hK hS HYS HSEQ B0 B1 B2 B3 HBW hld hmk
  gi_wp2
  refine wpIn_wide.2 ?_
  go_loopw [8,9,10,28] (fun _ _ _ j wr=>∃(k:Nat) (A1:Option Addr) (c1:Nat),k<=N/\j=.int .i64 k/\Hid (Box wr (w.1.size+1) 34 (.slice A1 (Yk v.m x old k).length c1))/\Hid (Own S6 6 173 wr W.1.size (.slice A1 (Yk v.m x old k).length c1) (Yk v.m x old k))/\Hid (BlkB wr (w.1.size+1+1) (VC (toR v.m x N k)) 9)/\Hid (Kp3 (w.1.size+1) (w.1.size+1+1) W wr)) (fun _ _ _ j _=>N-(intOf j).toNat)
  case atStart=>exact⟨0,none,0,Nat.zero_le _,rfl,H1.out,Own.nil,H2.out,Kp3.refl _ _ _⟩
  case round=>
   clear c11;obtain⟨k,A1,c1,hk,rfl,HBX,HOW,HTO,HKP⟩:=hrel
   have hn0:n₀<=W.1.size:=by have:=HN0.out;have:=H5.out.size;omega
   have HPM:=jq (show ∀X,Kp3 (w.1.size+1) (w.1.size+1+1) W X->PlM X n₀ v x old pn pm pf pp from fun X hX=>hX.pl (HM.out.below (H5.out.mono HN0.out)) hn0 (by have:=HN0.out;omega) (by have:=HN0.out;omega));have HUN:=jq (show ∀X,Kp3 (w.1.size+1) (w.1.size+1+1) W X->Below w.1.size w X from fun X hX=>hX.under H5.out (by have:=H6.out;have:=HS5.out;omega) (by omega) (by omega))
   by_cases hlt:k<N
   ·have hLT:Xg wr n₀ oA N old:=by have:=(HPM.out _ HKP.out).lots;rwa [HON.out,HOA.out] at this
    obtain⟨b,off,y,hAe,hb,hy,d0,d1,d2,d3,d4,d5,d6⟩:=hLT.lot7 hlt
    have hyo:=List.getElem?_eq_some_iff.1 hy;have HST:=jq (show Yk v.m x old (k+1)=Yk v.m x old k++JC v.m x k y by rw[ZdF v.m x old k hyo.1,hyo.2])
    have HSL:=jq (show(Yk v.m x old k).length<=2*k by
     unfold Yk
     have h:∀(l:List Nat),(l.flatMap fun k=>match old[k]? with|some y=>JC v.m x k y|none=>[]).length<=2*l.length:=by
      intro l
      induction l with
      |nil=>simp
      |cons a l ih=>
       rw[List.flatMap_cons,List.length_append,List.length_cons]
       have:(match old[a]? with|some y=>JC v.m x a y|none=>[]).length<=2:=by
        cases old[a]? with
        |none=>simp
        |some z=>exact ZgI v.m x a z
       omega
     have:=h (List.range k)
     rwa [List.length_range] at this)
    clear hy hyo hLT;subst hAe;have hP0:BlkB wr w.1.size pb 117:=HKP.out.blkB H0.out (by omega) (by omega);have hP3:Box wr (w.1.size+1+1+1) 175 (.slice (some ⟨w.1.size+1+1,0,none⟩) N N):=HKP.out.box H3.out (by omega) (by omega);have hwr:W.1.size<=wr.1.size:=HKP.out.size;have hw5:w.1.size+5<=wr.1.size:=by have:=H6.out;have:=HS5.out;omega
    have HYB:=jq (heap_alloc_new wr (.cells #[.string ⟨y.id.toArray⟩,.string ⟨y.inst.toArray⟩,.int .i64 y.acq,.int .i64 y.opn,.string ⟨y.q.toArray⟩,.string ⟨y.c.toArray⟩,.string ⟨y.u.toArray⟩] 50));have HK1:=jq (HKP.out.alloc (.cells #[.string ⟨y.id.toArray⟩,.string ⟨y.inst.toArray⟩,.int .i64 y.acq,.int .i64 y.opn,.string ⟨y.q.toArray⟩,.string ⟨y.c.toArray⟩,.string ⟨y.u.toArray⟩] 50));have HX1:=jq (HBX.out.alloc (.cells #[.string ⟨y.id.toArray⟩,.string ⟨y.inst.toArray⟩,.int .i64 y.acq,.int .i64 y.opn,.string ⟨y.q.toArray⟩,.string ⟨y.c.toArray⟩,.string ⟨y.u.toArray⟩] 50));have HO1:=jq (HOW.out.alloc (.cells #[.string ⟨y.id.toArray⟩,.string ⟨y.inst.toArray⟩,.int .i64 y.acq,.int .i64 y.opn,.string ⟨y.q.toArray⟩,.string ⟨y.c.toArray⟩,.string ⟨y.u.toArray⟩] 50));have HT1:=jq (HTO.out.alloc (.cells #[.string ⟨y.id.toArray⟩,.string ⟨y.inst.toArray⟩,.int .i64 y.acq,.int .i64 y.opn,.string ⟨y.q.toArray⟩,.string ⟨y.c.toArray⟩,.string ⟨y.u.toArray⟩] 50))
    have HQO:=jq (show ∀g,(Value.slice A1 (Yk v.m x old k).length c1).ownBlock=some g->W.1.size<=g/\g<wr.1.size from fun g hg=>by
     obtain⟨A',c',hv,_,_,_,h5⟩:=HOW.out.form
     exact(h5 g hg).2)
    have c10:=hP0.cell 10 E10.out;clear hP0 hP3;obtain⟨gn,hgn⟩:∃gn,gn=if v.m.keep=true then[] else y.q:=⟨_,rfl⟩
    have HGN:=jq hgn;have lw:w.1.size<wr.1.size:=by omega
    have nw:w.1.size≠wr.1.size:=by omega
    clear hgn;go_upto_if 37 with (fail)
    generalize wr.alloc _=Wy at*
    go_cut [10,28] from 28 to 86 (fun g j wc=>g=.string ⟨gn.toArray⟩/\j=.int .i64 k/\Wy=wc)
    case first=>
     cases hkp:v.m.keep with
     |true=>
      have HG0:=jq (show gn=[] by rw[HGN.out,if_pos hkp]);clear hkp;go_wp2_with fail
      go_meet
      exact⟨by rw[HG0.out],rfl,rfl⟩
     |false=>
      have HG0:=jq (show gn=y.q by rw[HGN.out,if_neg (by rw[hkp];decide)]);clear hkp;go_wp2_with fail
      go_meet
      exact⟨by rw[HG0.out],rfl,rfl⟩
    case rest=>
    obtain⟨rfl,rfl,rfl⟩:=hcut
    have hP0:BlkB Wy w.1.size pb 117:=HK1.out.blkB H0.out (by omega) (by omega);have cy12:=hP0.cell 12 E12.out;clear hP0 c10 d0 d1 d2 d3 d4 d5 d6 lw nw;obtain⟨g2,hg2⟩:∃g2,g2=if x.parts=0 then gn else[]:=⟨_,rfl⟩
    obtain⟨s1,hs1⟩:∃s1,s1=if x.parts=0 then[] else Yy {cause:=v.m.cause,src:=y.id,dst:=Xi v.m.cause (if x.n.getD k 0=0 then 1 else Xc x.n k+1),q:=gn,made:=Qa (x.n.getD k 0),cost:=Qa (x.mv k)}:=⟨_,rfl⟩
    have HST2:=jq (show JC v.m x k y=s1++Yy {cause:=v.m.cause,src:=y.id,dst:=[],q:=g2,made:=[],cost:=Qa (x.f.getD k 0)} by
     unfold JC;simp only;rw[hs1,hg2,HGN.out]
     by_cases h:x.parts=0
     ·rw[if_pos h,if_pos h,if_pos h];rfl
     ·rw[if_neg h,if_neg h,if_neg h])
    have HG2:=jq hg2;have HS1:=jq hs1;clear hg2 hs1
    have hs1l:s1.length<=1:=by
     rw[HS1.out]
     split
     ·simp
     ·exact ZlX _
    have HS1L:=jq hs1l;clear hs1l;go_upto_if 40 with (fail)
    generalize hsk:Yk v.m x old k=sk at*;have HSK:=jq hsk;clear hsk
    go_cut [10,28] from 28 to 86 (fun g j wc=>∃A2 c2,g=.string ⟨g2.toArray⟩/\j=.int .i64 k/\Hid (Box wc (w.1.size+1) 34 (.slice A2 (sk++s1).length c2))/\Hid (Own S6 6 173 wc W.1.size (.slice A2 (sk++s1).length c2) (sk++s1))/\Hid (BlkB wc (w.1.size+1+1) (VC (toR v.m x N (k+1))) 9)/\Hid (Kp3 (w.1.size+1) (w.1.size+1+1) W wc)/\Hid (BlkB wc wr.1.size #[.string ⟨y.id.toArray⟩,.string ⟨y.inst.toArray⟩,.int .i64 y.acq,.int .i64 y.opn,.string ⟨y.q.toArray⟩,.string ⟨y.c.toArray⟩,.string ⟨y.u.toArray⟩] 50))
    case first=>
     by_cases hp0:x.parts=0
     ·have e1:(Qa x.parts==[])=true:=by rw[YM];exact decide_eq_true hp0
      have e2:(Qa x.parts).isEmpty=true:=by rw[Vd];exact e1
      have HSE:=jq (show s1=[] by rw[HS1.out,if_pos hp0]);have HGE:=jq (show g2=gn by rw[HG2.out,if_pos hp0]);have HTR:=jq (ZgK v.m x N k (.inr hp0));clear hp0;simp only[e2,Bool.not_true];go_wp2_with fail
      go_meet
      refine⟨A1,c1,by rw[HGE.out],rfl,?_,?_,?_,HK1,HYB⟩
      ·show Box _ _ _ _
       rw[HSE.out,List.append_nil];exact HX1.out
      ·show Own _ _ _ _ _ _ _
       rw[HSE.out,List.append_nil];exact HO1.out
      ·show BlkB _ _ _ _
       rw[HTR.out];exact HT1.out
     ·have e1:(Qa x.parts==[])=false:=by rw[YM];exact decide_eq_false hp0
      have e2:(Qa x.parts).isEmpty=false:=by rw[Vd];exact e1
      simp only[e2,Bool.not_false];have HSE:=jq (show s1=Yy {cause:=v.m.cause,src:=y.id,dst:=Xi v.m.cause (if x.n.getD k 0=0 then 1 else Xc x.n k+1),q:=gn,made:=Qa (x.n.getD k 0),cost:=Qa (x.mv k)} by rw[HS1.out,if_neg hp0]);have HGE:=jq (show g2=[] by rw[HG2.out,if_neg hp0]);have HTG:=jq (Ziy v.m x N k k hlt)
      have HTG2:=jq (show(toR v.m x N (k+1))[k]?=some (Xi v.m.cause (if x.n.getD k 0=0 then 1 else Xc x.n k+1)) by
       rw[Ziy v.m x N (k+1) k hlt]
       by_cases h:x.n.getD k 0=0
       ·rw[if_pos h,if_pos h,if_pos ⟨by omega,hp0⟩]
       ·rw[if_neg h,if_neg h])
      have HTN:=jq (ZgK v.m x N k);have HTS:=jq (fun h=>Zni v.m x N k hlt h hp0);have hPX:Box Wy (w.1.size+1+1+1) 175 (.slice (some ⟨w.1.size+1+1,0,none⟩) N N):=HK1.out.box H3.out (by omega) (by omega);have cto:=hPX.cell;have i1:(0:Int)<=(k:Int):=by omega
      have i2:(k:Int)<(N:Int):=by omega
      have HP0:=jq hp0;clear hPX hp0
      have HSA:=jq (show ∀X,Kp3 (w.1.size+1) (w.1.size+1+1) W X->X.cell? ⟨w.1.size+1+1+1,0,none⟩=some (.slice (some ⟨w.1.size+1+1,0,none⟩) N N)/\(Zcf (.pointer (some ⟨w.1.size,0,none⟩))).run Tryz.prog X=.ok (.agg pb) X from fun X hX=>
       ⟨(hX.box H3.out (by omega) (by omega)).cell,XO (hX.blkB H0.out (by omega) (by omega)) ES.out⟩)
      obtain⟨tk,htk⟩:∃tk,tk=if x.n.getD k 0=0 then[] else Xi v.m.cause (Xc x.n k+1):=⟨_,rfl⟩
      have HTK:=jq htk
      have ctk:Wy.cell? ⟨w.1.size+1+1,k,none⟩=some (.string ⟨tk.toArray⟩):=HT1.out.cell k (ZbJ _ _ _ (by
       rw[HTG.out,htk]
       by_cases h:x.n.getD k 0=0
       ·rw[if_pos h,if_pos h,if_neg (fun h=>Nat.lt_irrefl _ h.1)]
       ·rw[if_neg h,if_neg h]))
      clear htk;go_upto_if 45 with (fail)
      go_cut [28] from 28 to 86 (fun j wc=>j=.int .i64 k/\Hid (Box wc (w.1.size+1) 34 (.slice A1 sk.length c1))/\Hid (Own S6 6 173 wc W.1.size (.slice A1 sk.length c1) sk)/\Hid (BlkB wc (w.1.size+1+1) (VC (toR v.m x N (k+1))) 9)/\Hid (Kp3 (w.1.size+1) (w.1.size+1+1) W wc)/\Hid (BlkB wc wr.1.size #[.string ⟨y.id.toArray⟩,.string ⟨y.inst.toArray⟩,.int .i64 y.acq,.int .i64 y.opn,.string ⟨y.q.toArray⟩,.string ⟨y.c.toArray⟩,.string ⟨y.u.toArray⟩] 50))
      case first=>
       by_cases hn0:x.n.getD k 0=0
       ·have htk:tk=[]:=by rw[HTK.out,if_pos hn0]
        have HTG3:=jq (show(toR v.m x N k)[k]?=some ([]:List UInt8) by rw[HTG.out,if_pos hn0,if_neg (fun h=>Nat.lt_irrefl _ h.1)]);subst htk;have HTE:=jq (HTS.out hn0);have HEN:=jq (HP.out.here (HUN.out _ HK1.out.drew));have HID:=jq (fun W' he=>Ziq v 1 W' he (by omega) (by omega) (by have:=HCL.out;omega));rw[Yt,HPB.out,show((1:Nat):Int)=1 from rfl] at HID;generalize hnid:Xi v.m.cause 1=nid at*;have HNID:=jq hnid;clear hn0 hnid;unfold S at HID;obtain⟨q1,q2⟩:=HSA.out Wy HK1.out
        simp only[List.isEmpty_nil];have hsd:=HSA.out _ HK1.out.drew;go_upto_region 16 with (fail)
        go_region_held3 (fun X=>X.cell? ⟨w.1.size+1+1+1,0,none⟩=some (.slice (some ⟨w.1.size+1+1,0,none⟩) N N)/\(Zcf (.pointer (some ⟨w.1.size,0,none⟩))).run Tryz.prog X=.ok (.agg pb) X)
         (first
           |with_reducible exact s3
           |with_reducible exact s2
           |with_reducible exact hsd
           |go_keep)
         (first|(go_at_call 109;(refine(HID.out _ HEN.out).mono ?_);rintro e y1 ⟨rfl,hy⟩;have k2:=HK1.out.drew.below hy;have s2:=HSA.out _ k2;have k3:=k2.set2 k (.string ⟨nid.toArray⟩);have s3:=HSA.out _ k3;have t2:BlkB y1 (w.1.size+1+1) (VC (toR v.m x N k)) 9:=BlkB.here (w:=Wy.drew) HT1.out hy;have tc:=t2.cell k (ZbJ _ _ _ HTG3.out);have tf:=t2.frozen k))
        all_goals
         go_wp2_with fail
         go_meet
         refine⟨rfl,?_,?_,?_,k3,?_⟩
         ·exact(Box.here (w:=Wy.drew) HX1.out hy).far (p:=⟨w.1.size+1+1,k,none⟩) (by simp) _
         ·exact((HO1.out.drew).below hy).farB t2 (by decide) k _
         ·show BlkB _ _ _ _
          rw[<-HTE.out,<-ZgL];exact t2.set k _
         ·exact(BlkB.here (w:=Wy.drew) HYB.out hy).far (a:=⟨w.1.size+1+1,k,none⟩) (by simp;omega) _
       ·have HTE:=jq (HTN.out (.inl hn0));have hni:(tk==[])=false:=by rw[HTK.out,if_neg hn0];unfold Xi;simp
        have hni2:tk.isEmpty=false:=by rw[Vd];exact hni
        clear hn0;simp only[hni2];go_wp2_with fail
        go_meet
        exact⟨rfl,HX1,HO1,(show BlkB _ _ _ _ by rw[HTE.out];exact HT1.out),HK1,HYB⟩
      case rest=>
      obtain⟨rfl,HX2,HO2,HT2,HK2,HY2⟩:=hcut
      clear HSA HTG HTN HTS HTK cto ctk;obtain⟨td,htd⟩:∃td,td=Xi v.m.cause (if x.n.getD k 0=0 then 1 else Xc x.n k+1):=⟨_,rfl⟩
      obtain⟨tn,htn⟩:∃tn,tn=Qa (x.n.getD k 0):=⟨_,rfl⟩
      obtain⟨tm,htm⟩:∃tm,tm=Qa (x.mv k):=⟨_,rfl⟩
      have HPN:=jq (show ∀X,Kp3 (w.1.size+1) (w.1.size+1+1) W X->X.cell? ⟨pn,k,none⟩=some (.string ⟨tn.toArray⟩) from fun X hX=>by
       have h:=(HPM.out X hX).bn;rw[HON.out] at h;exact h.cell k (by rw[htn,QD _ _ _ _ hlt,if_pos hlt]))
      rw[<-htd] at HTG2
      have HS17:=jq (show ∀X,Kp3 (w.1.size+1) (w.1.size+1+1) W X->BlkB X (w.1.size+1+1) (VC (toR v.m x N (k+1))) 9->BlkB X wr.1.size #[.string ⟨y.id.toArray⟩,.string ⟨y.inst.toArray⟩,.int .i64 y.acq,.int .i64 y.opn,.string ⟨y.q.toArray⟩,.string ⟨y.c.toArray⟩,.string ⟨y.u.toArray⟩] 50->X.cell? ⟨w.1.size,0,none⟩=some (.string ⟨v.m.cause.toArray⟩)/\X.cell? ⟨wr.1.size,0,none⟩=some (.string ⟨y.id.toArray⟩)/\X.cell? ⟨w.1.size+1+1+1,0,none⟩=some (.slice (some ⟨w.1.size+1+1,0,none⟩) N N)/\X.cell? ⟨w.1.size+1+1,k,none⟩=some (.string ⟨td.toArray⟩)/\X.cell? ⟨w.1.size,15,none⟩=some (.slice (some ⟨pn,0,none⟩) N N)/\X.cell? ⟨pn,k,none⟩=some (.string ⟨tn.toArray⟩)/\(Zcf (.pointer (some ⟨w.1.size,0,none⟩))).run Tryz.prog X=.ok (.agg pb) X from fun X hX hT hY=>
       ⟨(hX.blkB H0.out (by omega) (by omega)).cell 0 E0.out,hY.cell 0 rfl,(hX.box H3.out (by omega) (by omega)).cell,hT.cell k (ZbJ _ _ _ HTG2.out),(hX.blkB H0.out (by omega) (by omega)).cell 15 E15.out,HPN.out X hX,XO (hX.blkB H0.out (by omega) (by omega)) ES.out⟩)
      have HMV:=jq (show ∀X,Kp3 (w.1.size+1) (w.1.size+1+1) W X->Calls Tryz.prog 108 #[.agg pb,.int .i64 k] X fun e w'=>e=.returned (.string ⟨tm.toArray⟩)/\Below X.1.size X w' from fun X hX=>by
       have h:=ZdN v x old pn pm pf pp k X (HP.out.here (HUN.out X hX)) ((HPM.out X hX).more (by have:=HN0.out;have:=hX.size;omega)) (HZ.out.sz.more (by omega)) (by have:=HNN.out;omega) (by have:=HNL.out;omega);rw[Yt,HPB.out,<-htm] at h;exact h)
      have hse:s1=Yy {cause:=v.m.cause,src:=y.id,dst:=td,q:=gn,made:=tn,cost:=tm}:=by rw[HSE.out,htd,htn,htm]
      have HAD:=jq (show ∀X,Box X (w.1.size+1) 34 (.slice A1 sk.length c1)->Own S6 6 173 X W.1.size (.slice A1 sk.length c1) sk->W.1.size<=X.1.size->Calls Tryz.prog 110 #[.agg #[.string ⟨v.m.cause.toArray⟩,.string ⟨y.id.toArray⟩,.string ⟨td.toArray⟩,.string ⟨gn.toArray⟩,.string ⟨tn.toArray⟩,.string ⟨tm.toArray⟩],.pointer (some ⟨w.1.size+1,0,none⟩)] X (ZaA (w.1.size+1) W.1.size A1 sk.length c1 (sk++s1) X) from fun X hb ho hX=>by
       rw[hse];exact ZgM {cause:=v.m.cause,src:=y.id,dst:=td,q:=gn,made:=tn,cost:=tm} (w.1.size+1) W.1.size c1 A1 sk X hb ho (by have:=HSL.out;have:=HNM.out;omega) hX)
      have HNP:=jq (show pn<W.1.size from by have:=(HM.out).ln;have:=HN0.out;have:=H5.out.size;omega);clear hse htd htn htm HST2;obtain⟨s00,s01,s02,s03,s04,s05,s06⟩:=HS17.out _ HK2.out HT2.out HY2.out
      have hsd:=HS17.out _ HK2.out.drew (BlkB.drewS' HT2.out) (BlkB.drewS' HY2.out);go_upto_region 17 with (fail)
      go_region_held3 (fun X=>X.cell? ⟨w.1.size,0,none⟩=some (.string ⟨v.m.cause.toArray⟩)/\X.cell? ⟨wr.1.size,0,none⟩=some (.string ⟨y.id.toArray⟩)/\X.cell? ⟨w.1.size+1+1+1,0,none⟩=some (.slice (some ⟨w.1.size+1+1,0,none⟩) N N)/\X.cell? ⟨w.1.size+1+1,k,none⟩=some (.string ⟨td.toArray⟩)/\X.cell? ⟨w.1.size,15,none⟩=some (.slice (some ⟨pn,0,none⟩) N N)/\X.cell? ⟨pn,k,none⟩=some (.string ⟨tn.toArray⟩)/\(Zcf (.pointer (some ⟨w.1.size,0,none⟩))).run Tryz.prog X=.ok (.agg pb) X)
       (first
         |with_reducible exact s3
         |with_reducible exact s2
         |with_reducible exact hsd
         |go_keep)
       (first
         |(go_at_call 108;(refine(HMV.out _ HK2.out.drew).mono ?_);rintro e y1 ⟨rfl,hy⟩
           have k2:=HK2.out.drew.below hy;have t2:=BlkB.here (w:=wc.drew) (BlkB.drewS' HT2.out) hy;have l2:=BlkB.here (w:=wc.drew) (BlkB.drewS' HY2.out) hy;have x2:=Box.here (w:=wc.drew) HX2.out hy;have o2:=(HO2.out.drew).below hy;have s2:=HS17.out _ k2 t2 l2)
         |(go_at_call 110;(refine(HAD.out _ x2 o2 k2.size).mono ?_);rintro e y2 ⟨⟨vv,rfl⟩,A2,c2,x3,o3,h1,h2,h3,h4,h5⟩
           have hq2:∀g,(Value.slice A1 sk.length c1).ownBlock=some g->W.1.size<=g/\some g≠some (w.1.size+1+1)/\g≠wr.1.size:=fun g hg=>⟨(HQO.out g hg).1,fun e=>by have:=(HQO.out g hg).1;have:=H6.out;have:=HS5.out;injection e with e;omega,fun e=>by have:=(HQO.out g hg).2;omega⟩
           have k3:=k2.add h1 h2 h3 h4 h5 (fun g hg=>(hq2 g hg).1);have t3:BlkB y2 (w.1.size+1+1) (VC (toR v.m x N (k+1))) 9:=(h5 _ t2.lt (by omega) (fun e=>(hq2 _ e.symm).2.1 rfl)).trans t2;have l3:BlkB y2 wr.1.size #[.string ⟨y.id.toArray⟩,.string ⟨y.inst.toArray⟩,.int .i64 y.acq,.int .i64 y.opn,.string ⟨y.q.toArray⟩,.string ⟨y.c.toArray⟩,.string ⟨y.u.toArray⟩] 50:=(h5 _ l2.lt (by omega) (fun e=>(hq2 _ e.symm).2.2 rfl)).trans l2;have s3:=HS17.out _ k3 t3 l3;clear h1 h2 h3 h4 h5))
      all_goals
       go_wp2_with fail
       go_meet
       exact⟨A2,c2,by rw[HGE.out],rfl,x3,o3,t3,k3,l3⟩
    case rest=>
    obtain⟨A2,c2,rfl,rfl,HX3,HO3,HT3,HK3,HY3⟩:=hcut
    clear HX1 HO1 HT1 HK1 HYB cy12;obtain⟨tf,htf⟩:∃tf,tf=Qa (x.f.getD k 0):=⟨_,rfl⟩
    have HPF:=jq (show ∀X,Kp3 (w.1.size+1) (w.1.size+1+1) W X->X.cell? ⟨pf,k,none⟩=some (.string ⟨tf.toArray⟩) from fun X hX=>by
     have h:=(HPM.out X hX).bf;rw[HON.out] at h;exact h.cell k (by rw[htf,QD _ _ _ _ hlt,if_pos hlt]))
    rw[<-htf] at HST2;obtain⟨s2,hs2⟩:∃s2,s2=Yy {cause:=v.m.cause,src:=y.id,dst:=[],q:=g2,made:=[],cost:=tf}:=⟨_,rfl⟩
    have HFIN:=jq (show Yk v.m x old (k+1)=sk++s1++s2 by rw[HST.out,HST2.out,hs2,List.append_assoc]);have HL12:=jq (show(sk++s1).length<=2*k+1 by rw[List.length_append];have:=HSL.out;have:=HS1L.out;omega);clear HST HST2 htf HG2 HGN HS1 HS1L HSL;generalize sk++s1=sk1 at*
    have HS19:=jq (show ∀X,Kp3 (w.1.size+1) (w.1.size+1+1) W X->BlkB X wr.1.size #[.string ⟨y.id.toArray⟩,.string ⟨y.inst.toArray⟩,.int .i64 y.acq,.int .i64 y.opn,.string ⟨y.q.toArray⟩,.string ⟨y.c.toArray⟩,.string ⟨y.u.toArray⟩] 50->X.cell? ⟨w.1.size,0,none⟩=some (.string ⟨v.m.cause.toArray⟩)/\X.cell? ⟨wr.1.size,0,none⟩=some (.string ⟨y.id.toArray⟩)/\X.cell? ⟨w.1.size,17,none⟩=some (.slice (some ⟨pf,0,none⟩) N N)/\X.cell? ⟨pf,k,none⟩=some (.string ⟨tf.toArray⟩) from fun X hX hY=>
     ⟨(hX.blkB H0.out (by omega) (by omega)).cell 0 E0.out,hY.cell 0 rfl,(hX.blkB H0.out (by omega) (by omega)).cell 17 E17.out,HPF.out X hX⟩)
    have HAD:=jq (show ∀X,Box X (w.1.size+1) 34 (.slice A2 sk1.length c2)->Own S6 6 173 X W.1.size (.slice A2 sk1.length c2) sk1->W.1.size<=X.1.size->Calls Tryz.prog 110 #[.agg #[.string ⟨v.m.cause.toArray⟩,.string ⟨y.id.toArray⟩,.string ⟨#[]⟩,.string ⟨g2.toArray⟩,.string ⟨#[]⟩,.string ⟨tf.toArray⟩],.pointer (some ⟨w.1.size+1,0,none⟩)] X (ZaA (w.1.size+1) W.1.size A2 sk1.length c2 (sk1++s2) X) from fun X hb ho hX=>by
     rw[hs2];exact ZgM {cause:=v.m.cause,src:=y.id,dst:=[],q:=g2,made:=[],cost:=tf} (w.1.size+1) W.1.size c2 A2 sk1 X hb ho (by have:=HL12.out;have:=HNM.out;omega) hX)
    have HQ2:=jq (show ∀g,(Value.slice A2 sk1.length c2).ownBlock=some g->W.1.size<=g/\some g≠some (w.1.size+1+1)/\g<wc.1.size/\(BlkB wc wr.1.size #[.string ⟨y.id.toArray⟩,.string ⟨y.inst.toArray⟩,.int .i64 y.acq,.int .i64 y.opn,.string ⟨y.q.toArray⟩,.string ⟨y.c.toArray⟩,.string ⟨y.u.toArray⟩] 50->some g≠some wr.1.size) from fun g hg=>by
     obtain⟨A',c',hv,_,_,_,h5⟩:=HO3.out.form
     have h:=(h5 g hg).2;refine⟨h.1,fun e=>by have:=H6.out;have:=HS5.out;injection e with e;omega,h.2,fun hY e=> ?_⟩;exact HO3.out.neBlk hY (by decide) (by rw[hg,e]))
    clear hs2;obtain⟨s00,s01,s02,s03⟩:=HS19.out _ HK3.out HY3.out
    have hsd:=HS19.out _ HK3.out.drew (BlkB.drewS' HY3.out);have HPL:=jq (show pf<W.1.size from by have:=(HM.out).lf;have:=HN0.out;have:=H5.out.size;omega);go_upto_region 19 with (fail)
    go_region_held3 (fun X=>X.cell? ⟨w.1.size,0,none⟩=some (.string ⟨v.m.cause.toArray⟩)/\X.cell? ⟨wr.1.size,0,none⟩=some (.string ⟨y.id.toArray⟩)/\X.cell? ⟨w.1.size,17,none⟩=some (.slice (some ⟨pf,0,none⟩) N N)/\X.cell? ⟨pf,k,none⟩=some (.string ⟨tf.toArray⟩))
     (first
       |with_reducible exact s3
       |with_reducible exact hsd
       |go_keep)
     (first
       |(go_at_call 110;(refine(HAD.out _ (Box.here (w:=wc) HX3.out (Below.refl _ _).drew) HO3.out.drew HK3.out.drew.size).mono ?_);rintro e y2 ⟨⟨vv,rfl⟩,A4,c4,x4,o4,h1,h2,h3,h4,h5⟩
         have k3:=HK3.out.drew.add h1 h2 h3 h4 h5 (fun g hg=>(HQ2.out g hg).1);have t3:BlkB y2 (w.1.size+1+1) (VC (toR v.m x N (k+1))) 9:=(h5 _ HT3.out.lt (by omega) (fun e=>(HQ2.out _ e.symm).2.1 rfl)).trans HT3.out;have l3:BlkB y2 wr.1.size #[.string ⟨y.id.toArray⟩,.string ⟨y.inst.toArray⟩,.int .i64 y.acq,.int .i64 y.opn,.string ⟨y.q.toArray⟩,.string ⟨y.c.toArray⟩,.string ⟨y.u.toArray⟩] 50:=(h5 _ HY3.out.lt (by omega) (fun e=>(HQ2.out _ e.symm).2.2.2 HY3.out rfl)).trans HY3.out;have s3:=HS19.out _ k3 l3;clear h1 h2 h3 h4 h5))
    all_goals
     go_wp2_with fail
     go_roundw
     case rel=>
      refine⟨k+1,A4,c4,by omega,by go_num,?_,?_,t3,k3⟩
      ·show Box _ _ _ _
       rw[HFIN.out];exact x4
      ·show Own _ _ _ _ _ _ _
       rw[HFIN.out];exact o4
     case measure=>simp[intOf];omega
   ·obtain rfl:k=N:=by omega
    have HFI:=jq (show Yk v.m x old k=Zba v.m x old by rw[HNN.out];rfl);have bx:=HBX.out.cell;have HDD:=jq (show wr.heap[D]?=some (.deferred (some [])) from(HKP.out.blk D (Array.getElem?_eq_some_iff.1 HD.out).1 (by have:=HDL.out;have:=HS5.out;omega) (by have:=HDL.out;have:=HS5.out;omega)).trans HD.out);rw[HFI.out] at bx HOW;go_wp2_with fail
    gi_wp2
    refine⟨by simp,.inl ⟨_,_,rfl,run_takeDeferred HDD.out,?_⟩⟩;refine⟨_,results_tmp rfl _ _ _,?_⟩;rw[HPO.out];have hD5:w.1.size<=D:=by have:=HDL.out;have:=HS5.out;omega
    have hwW:w.1.size<=W.1.size:=H5.out.size;exact⟨A1,c1,rfl,(HOW.out.base_ hwW).turned (grownBy_putObj' wr D (.deferred none)) (B:=w.1.size) (fun r e=>by cases e;exact⟨hD5,_,HDD.out,rfl⟩),(HUN.out _ HKP.out).grown (grownBy_putObj' wr D (.deferred none)) (HUN.out _ HKP.out).size (fun r e=>by cases e;exact hD5)⟩
end
end Go.Proofs.YtmamnnaiogidaaaGreatDoor
