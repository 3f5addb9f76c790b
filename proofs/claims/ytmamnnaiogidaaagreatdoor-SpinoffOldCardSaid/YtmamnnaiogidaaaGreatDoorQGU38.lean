/- Pr1, Mk2, Mwp, St1, Kp3, Gn, Nu0, Lsn. -/
import Derived.Test.YtmamnnaiogidaaaGreatDoorQGU31
import Derived.Test.YtmamnnaiogidaaaGreatDoorQGU32
set_option maxRecDepth 100000
set_option maxHeartbeats 8000000
namespace Go.Proofs.YtmamnnaiogidaaaGreatDoor
open Go.Lib renaming hid→jq
open Go.RowKit Go.Shelf
section
section
variable {w W W':World} {bs:List (Nat×Array Value×TypeId)} {p:Nat} {cs:Array Value} {T:TypeId}
theorem Own.neBlk{α:Type}{enc:α->List Value}{k base:Nat}{e:TypeId}{x:Value}{xs:List α}(h:Own enc k e W base x xs)(hb:BlkB W p cs T)(hne:e≠T):x.ownBlock≠some p:=by
 rcases h.2 with ⟨rfl,_⟩|⟨g,cap,cur,rfl,_,hg,_⟩
 ·simp[Value.ownBlock]
 ·intro hh;simp only[Value.ownBlock,Option.some.injEq] at hh;subst hh;unfold BlkB at hb;rw[hg] at hb;injection hb with hb;injection hb with _ ht;exact hne ht
theorem Own.farB{α:Type}{enc:α->List Value}{k base:Nat}{e:TypeId}{x:Value}{xs:List α}(h:Own enc k e W base x xs)(hb:BlkB W p cs T)(hne:e≠T)(j:Nat)(u:Value):Own enc k e (W.setCell ⟨p,j,none⟩ u) base x xs:=h.far (h.neBlk hb hne) u
theorem Own.farR{α:Type}{enc:α->List Value}{k base:Nat}{e:TypeId}{x:Value}{xs:List α}(h:Own enc k e W base x xs)(hb:BlkB W p cs T)(hne:e≠T)(ds:Array Value):Own enc k e (W.setRow p ds) base x xs:=by
 refine World.ownsRow.kept h (row:=some p) ⟨rfl,rfl,rfl,by simp[World.setRow],fun i _ hi=>setRow_other W p i ds (fun e=>hi (by rw[e]))⟩ (.inr (h.neBlk hb hne))
structure Pr (w:World) (Ao:Option Addr) (N co:Nat) (old:List Lot) (A1:Option Addr) (c1:Nat) (qs:List (List UInt8)) (A2:Option Addr) (c2:Nat) (ks:List (List UInt8)) (bs:List (Nat×Array Value×TypeId)) (W:World):Prop where
 k:Kp w bs W
 o:Own L7 7 50 W w.1.size (.slice Ao N co) old
 q:Own S1 1 24 W w.1.size (.slice A1 N c1) qs
 c:Own S1 1 24 W w.1.size (.slice A2 N c2) ks
variable {Ao A1 A2:Option Addr} {N co c1 c2:Nat} {old:List Lot} {qs ks:List (List UInt8)}
theorem Pr.here(h:Pr w Ao N co old A1 c1 qs A2 c2 ks bs W)(hb:Below W.1.size W W'):Pr w Ao N co old A1 c1 qs A2 c2 ks bs W':=⟨h.k.here hb,h.o.below hb,h.q.below hb,h.c.below hb⟩
theorem Pr.drew(h:Pr w Ao N co old A1 c1 qs A2 c2 ks bs W):Pr w Ao N co old A1 c1 qs A2 c2 ks bs W.drew:=h.here (Below.refl _ _).drew
theorem Pr.new(h:Pr w Ao N co old A1 c1 qs A2 c2 ks bs W)(p:Nat)(hp:p=W.1.size)(cs:Array Value)(T:TypeId):Pr w Ao N co old A1 c1 qs A2 c2 ks ((p,cs,T)::bs) (W.alloc (.cells cs T)):=
 ⟨h.k.new p hp cs T,h.o.alloc _,h.q.alloc _,h.c.alloc _⟩
theorem Pr.add(h:Pr w Ao N co old A1 c1 qs A2 c2 ks bs W)(hb:Below W.1.size W W')(p:Nat)(hp:W.1.size<=p)(hB:BlkB W' p cs T):Pr w Ao N co old A1 c1 qs A2 c2 ks ((p,cs,T)::bs) W':=by
 have h':=h.here hb;refine⟨⟨h'.k.pow,h'.k.bl,?_,?_,?_⟩,h'.o,h'.q,h'.c⟩
 ·intro b hx
  rcases List.mem_cons.1 hx with rfl|hx
  ·exact Nat.le_trans h.k.bl.size hp
  ·exact h'.k.own b hx
 ·refine .cons (fun b hx=> ?_) h'.k.ord;obtain⟨x,hy,rfl⟩:=List.mem_map.1 hx
  have:=(h.k.blk x hy).lt
  intro e;have e':p=x.1:=e;omega
 ·intro b hx
  rcases List.mem_cons.1 hx with rfl|hx
  ·exact hB
  ·exact h'.k.blk b hx
theorem Pr.set(h:Pr w Ao N co old A1 c1 qs A2 c2 ks bs W)(i j:Nat)(hb:bs[i]?=some (p,cs,T))(h1:50≠T)(h2:24≠T)(v:Value):Pr w Ao N co old A1 c1 qs A2 c2 ks (bs.set i (p,cs.setIfInBounds j v,T)) (W.setCell ⟨p,j,none⟩ v):=
 ⟨h.k.set i j hb v,h.o.farB (h.k.at_ i hb) h1 j v,h.q.farB (h.k.at_ i hb) h2 j v,h.c.farB (h.k.at_ i hb) h2 j v⟩
theorem Pr.row(h:Pr w Ao N co old A1 c1 qs A2 c2 ks bs W)(i:Nat)(hb:bs[i]?=some (p,cs,T))(h1:50≠T)(h2:24≠T)(ds:Array Value):Pr w Ao N co old A1 c1 qs A2 c2 ks (bs.set i (p,ds,T)) (W.setRow p ds):=
 ⟨h.k.row i hb ds,h.o.farR (h.k.at_ i hb) h1 ds,h.q.farR (h.k.at_ i hb) h2 ds,h.c.farR (h.k.at_ i hb) h2 ds⟩
end
def ZdO(m:Mp)(ls:List Lot)(w:World)(e:Ending)(w':World):Prop:=
 ∃v pn pm pf pp,e=.returned (.agg (QN v))/\v.m=m/\PlM w' w'.1.size v (Qe (Qb ls m.inst) m) (Qb ls m.inst) pn pm pf pp/\Below w.1.size w w'
theorem JM{W:World}{p n:Nat}{l:List Int}(h:BlkB W p (Qj l n n) 24)(hn:l.length=n):Vk W W.1.size (some ⟨p,0,none⟩) n (l.map Qa):=by
 refine⟨by rw[List.length_map,hn],fun _=>⟨p,0,rfl,h.lt,fun j z hj k u hk=> ?_⟩⟩;obtain⟨hj1,hj2⟩:=List.getElem?_eq_some_iff.1 hj
 rw[List.length_map] at hj1;have hk0:k=0:=by have:=(List.getElem?_eq_some_iff.1 hk).1;rw[XW] at this;omega
 subst hk0;have hu:u=.string ⟨z.toArray⟩:=by simpa[S1,S] using hk.symm
 have hz:z=Qa (l.getD j 0):=by
  rw[<-hj2,List.getElem_map,List.getD_eq_getElem?_getD,List.getElem?_eq_getElem hj1];rfl
 rw[hu,hz,Nat.zero_add,Nat.mul_one,Nat.add_zero];exact h.cell j (by rw[QD _ _ _ _ (by omega),if_pos (by omega)])
theorem ZdP(l:List Int):Qw (l.map Qa)=l.sum:=by
 unfold Qw;rw[List.map_map];have:(val ∘ Qa)=id:=by funext x;exact Qc x
 rw[this,List.map_id]
end
section
attribute [local go_sem ↓] Go.wp_at_zero Go.wp_at_succ VQ
theorem Zcj(m:Mp)(ms:List Int)(k:Nat)(l:List Lot):(Qn m ms k l).length<=l.length:=by
 induction l generalizing k with
 |nil=>simp[Qn]
 |cons a l ih=>
  have h1:=ih (k+1);have h2:=ih k;simp only[Qn]
  split
  ·split<;>simp<;>omega
  ·simp;omega
theorem ZlO{W:World}{base g:Nat}{u:Value}{xs:List Lot}(h:Own L7 7 50 W base u xs)(hg:u.ownBlock=some g):base<=g:=by
 obtain⟨A,c,rfl,_,_,_,h5⟩:=h.form
 exact(h5 g hg).2.1
theorem Below.set5{W w:World}{n:Nat}{u:Value}(h:Below n W w):Below n W (w.setCell ⟨n,5,none⟩ u):=h.setCell (Nat.le_refl _) _
theorem ZnG{W:World}{q:Nat}{y:Lot}(h:BlkB W q (XU y) 50):Xg W W.1.size (some ⟨q,0,none⟩) 1 [y]:=by
 refine⟨rfl,fun _=>⟨q,0,rfl,h.lt,fun j z hj k u hk=> ?_⟩⟩
 cases j with
 |zero=>
  simp only[List.getElem?_cons_zero,Option.some.injEq] at hj;subst hj;rw[Nat.zero_mul,Nat.zero_add];exact h.cell k (by rw[<-Zap];simpa using hk)
 |succ j=>simp at hj
theorem ZlP(v:PlV)(x:Plan)(old:List Lot)(pn pm pf pp n₀:Nat)(A:Option Addr)(n c:Nat)(ls:List Lot)(w:World)(hp:Env w)(hM:PlM w n₀ v x old pn pm pf pp)(hn₀:n₀<=w.1.size)(hz:PlSz 20000 x)
 (hs:Xg w w.1.size A n ls) (hl:∀y∈ls,y.Sz 50000) (hn:n<=1000) (ho:old.length=ls.countP (fun z=>decide (z.inst=v.m.inst))):
 Calls Tryz.prog 66 #[.agg (plA v).toArray,.slice A n c] w (RetOwn L7 7 50 w.1.size w (Qn v.m x.m 0 ls)):=by
 rw[Yt];have HB:=jq (show BlkB (w.alloc (.cells (QN v) 117)) w.1.size (QN v) 117 from heap_alloc_new w _);have HBW:=jq ((Below.refl w.1.size w).alloc (Nat.le_refl _) (.cells (QN v) 117));have HSZ:=jq (show(w.alloc (.cells (QN v) 117)).heap.size=w.1.size+1 by simp);have hp1:=jq (hp.here HBW.out);have HM:=jq (hM.below (HBW.out.mono hn₀));have HS:=jq (hs.below HBW.out);have HZ:=jq hz;have HL:=jq hl;have HO:=jq ho;have E2:=jq (show(QN v)[2]?=some (.string ⟨v.m.inst.toArray⟩) from rfl);have E10:=jq (show(QN v)[10]?=some (.bool v.m.keep) from rfl);have E16:=jq (show(QN v)[16]?=some (.slice (some ⟨pm,0,none⟩) v.on v.on) by rw[<-hM.em];rfl);have HPO:=jq (show RetOwn L7 7 50 w.1.size w (Qn v.m x.m 0 ls)=fun e w'=>∃A c,e=.returned (.slice A (Qn v.m x.m 0 ls).length c)/\Own L7 7 50 w' w.1.size (.slice A (Qn v.m x.m 0 ls).length c) (Qn v.m x.m 0 ls)/\Below w.1.size w w' from rfl);generalize RetOwn L7 7 50 w.1.size w (Qn v.m x.m 0 ls)=post at*;generalize QN v=pb at*;have HLE:=jq hs.1;have HNN:=jq hn₀;clear hp hM hz hs hl ho hn₀;go_enter Tryz.func66,Tryz.ntmps66
 go_wp2
 generalize w.alloc (.cells pb 117)=W1 at*
 go_loopw [5,6,8,11] (fun s a _ j wr=>∃(k at_:Nat) (A1:Option Addr) (c1:Nat),k<=n/\j=.int .i64 k/\a=.int .i64 at_/\s=.slice A1 (Qn v.m x.m 0 (ls.take k)).length c1/\Hid (v.m.keep=true->at_=(ls.take k).countP (fun z=>decide (z.inst=v.m.inst)))/\Hid (Own L7 7 50 wr W1.1.size (.slice A1 (Qn v.m x.m 0 (ls.take k)).length c1) (Qn v.m x.m 0 (ls.take k)))/\Hid (Below W1.1.size W1 wr)) (fun _ _ _ j _=>n-(intOf j).toNat)
 case atStart=>exact⟨0,0,none,0,Nat.zero_le _,rfl,rfl,rfl,(show _->_ from fun _=>rfl),Own.nil,Below.refl _ _⟩
 case round=>
  obtain⟨k,at_,A1,c1,hk,rfl,rfl,rfl,HAT,HOW,HBR⟩:=hrel
  by_cases hlt:k<n
  ·have hwl:w.1.size<=W1.1.size:=by have:=HSZ.out;omega
   obtain⟨b,off,y,rfl,hb,hy,d0,d1,d2,d3,d4,d5,d6⟩:=(HS.out.below (HBR.out.mono hwl)).lot7 hlt
   have HTK:=jq (show ls.take (k+1)=ls.take k++[y] by
    obtain⟨h1,h2⟩:=List.getElem?_eq_some_iff.1 hy
    rw[List.take_succ_eq_append_getElem h1,h2])
   have HKS:=jq (Zg2 v.m x.m 0 (ls.take k) y);have HYI:=jq hy;clear hy;have HBP:=jq (show BlkB wr w.1.size pb 117 from(HBR.out.block _ HB.out.lt).trans HB.out);have c2:=HBP.out.cell 2 E2.out;have c10:=HBP.out.cell 10 E10.out;have hpl:w.1.size<wr.1.size:=HBP.out.lt;have hpn:w.1.size≠wr.1.size:=by omega
   have HA1:=jq (HBR.out.alloc HBR.out.size (.cells #[.string ⟨y.id.toArray⟩,.string ⟨y.inst.toArray⟩,.int .i64 y.acq,.int .i64 y.opn,.string ⟨y.q.toArray⟩,.string ⟨y.c.toArray⟩,.string ⟨y.u.toArray⟩] 50));have HO1:=jq (HOW.out.alloc (.cells #[.string ⟨y.id.toArray⟩,.string ⟨y.inst.toArray⟩,.int .i64 y.acq,.int .i64 y.opn,.string ⟨y.q.toArray⟩,.string ⟨y.c.toArray⟩,.string ⟨y.u.toArray⟩] 50));rw[<-HTK.out] at HKS
   by_cases hi:y.inst=v.m.inst
   ·have hi2:(y.inst==v.m.inst)=true:=by simp[hi]
    cases hkp:v.m.keep with
    |false=>
     rw[hkp] at c10;have HK2:=jq (show Qn v.m x.m 0 (ls.take (k+1))=Qn v.m x.m 0 (ls.take k) by rw[HKS.out];simp[Qn,hi,hkp]);clear hi
     go_wp2
     go_roundw
     case rel=>exact⟨k+1,at_,A1,c1,by omega,by go_num,rfl,by rw[HK2.out],(show _->_ from fun h=>by first|(rw[hkp] at h;cases h)|cases h),(show Own _ _ _ _ _ _ _ by rw[HK2.out];exact HO1.out),HA1⟩
     case measure=>simp[intOf];omega
    |true=>
     rw[hkp] at c10;obtain⟨z,hzd⟩:∃z:Lot,z={y with c:=Qa (val y.c-x.m.getD at_ 0)}:=⟨_,rfl⟩
     have hatk:at_=(ls.take k).countP (fun z=>decide (z.inst=v.m.inst)):=HAT.out hkp;have HK2:=jq (show Qn v.m x.m 0 (ls.take (k+1))=Qn v.m x.m 0 (ls.take k)++[z] by rw[HKS.out,hzd,hatk];simp[Qn,hi,hkp]);have HCP:=jq (show(ls.take (k+1)).countP (fun z=>decide (z.inst=v.m.inst))=at_+1 by rw[HTK.out,List.countP_append,hatk];simp[hi])
     have hlo:at_<v.on:=by
      have h1:(ls.take (k+1)).countP (fun z=>decide (z.inst=v.m.inst))<=ls.countP (fun z=>decide (z.inst=v.m.inst)):=(List.take_sublist _ _).countP_le;rw[HCP.out,<-HO.out,<-HM.out.len] at h1;omega
     have hak:at_<=k:=by rw[hatk];exact Nat.le_trans List.countP_le_length (by rw[List.length_take];omega)
     clear hi hatk;have i1:(0:Int)<=(at_:Int):=by omega
     have i2:(at_:Int)<(v.on:Int):=by omega
     have HZ1:=jq (show XU z=#[.string ⟨y.id.toArray⟩,.string ⟨y.inst.toArray⟩,.int .i64 y.acq,.int .i64 y.opn,.string ⟨y.q.toArray⟩,.string ⟨z.c.toArray⟩,.string ⟨y.u.toArray⟩] by rw[hzd];rfl);have HSB:=jq (fun W (hp:Pow W)=>Yp y.c (Qa (x.m.getD at_ 0)) W hp (by have:=(HL.out y (List.mem_of_getElem? HYI.out)).c;omega) (by have:=HZ.out.m at_;omega));rw[Qc,show Qa (val y.c-x.m.getD at_ 0)=z.c by rw[hzd]] at HSB;have HPM:=jq (show ∀X,PlM X n₀ v x old pn pm pf pp->X.cell? ⟨pm,at_,none⟩=some (.string ⟨(Qa (x.m.getD at_ 0)).toArray⟩) from fun X hm=>hm.bm.cell at_ (by rw[QD _ _ _ _ hlo,if_pos hlo]));clear hzd;generalize Qa (x.m.getD at_ 0)=tm at*
     have HSS:=jq (show ∀X,Below wr.1.size wr X->X.cell? ⟨w.1.size,16,none⟩=some (.slice (some ⟨pm,0,none⟩) v.on v.on)/\X.cell? ⟨pm,at_,none⟩=some (.string ⟨tm.toArray⟩) from fun X h=>
      ⟨(HBP.out.here h).cell 16 E16.out,HPM.out X (HM.out.below ((HBR.out.trans (h.mono HBR.out.size)).mono (Nat.le_trans HNN.out hwl)))⟩)
     unfold S at HSB
     go_wp2
     have HYB:=jq (show BlkB (wr.alloc (.cells #[.string ⟨y.id.toArray⟩,.string ⟨y.inst.toArray⟩,.int .i64 y.acq,.int .i64 y.opn,.string ⟨y.q.toArray⟩,.string ⟨y.c.toArray⟩,.string ⟨y.u.toArray⟩] 50)) wr.1.size #[.string ⟨y.id.toArray⟩,.string ⟨y.inst.toArray⟩,.int .i64 y.acq,.int .i64 y.opn,.string ⟨y.q.toArray⟩,.string ⟨y.c.toArray⟩,.string ⟨y.u.toArray⟩] 50 from heap_alloc_new wr _);have HBY:=jq ((Below.refl wr.1.size wr).alloc (Nat.le_refl _) (.cells #[.string ⟨y.id.toArray⟩,.string ⟨y.inst.toArray⟩,.int .i64 y.acq,.int .i64 y.opn,.string ⟨y.q.toArray⟩,.string ⟨y.c.toArray⟩,.string ⟨y.u.toArray⟩] 50));have HSY:=jq (show(wr.alloc (.cells #[.string ⟨y.id.toArray⟩,.string ⟨y.inst.toArray⟩,.int .i64 y.acq,.int .i64 y.opn,.string ⟨y.q.toArray⟩,.string ⟨y.c.toArray⟩,.string ⟨y.u.toArray⟩] 50)).heap.size=wr.1.size+1 by simp);generalize wr.alloc _=Wy at*;clear d0 d1 d2 d3 d4 d5 d6 c2 c10;obtain⟨y1,y2⟩:=HSS.out _ HBY.out
     have y5:=HYB.out.cell 5 rfl;have HPW:=jq ((hp1.out.here HA1.out.drew).pow)
     go_cut [] (fun wc=>Hid (BlkB wc wr.1.size (XU z) 50)/\Hid (Below wr.1.size wr wc)/\Hid (Own L7 7 50 wc W1.1.size (.slice A1 (Qn v.m x.m 0 (ls.take k)).length c1) (Qn v.m x.m 0 (ls.take k))))
     case first=>
      go_region_with
       (go_at_call 16;(refine(HSB.out _ HPW.out).mono ?_);rintro e w1 ⟨rfl,hb1⟩;unfold S;have hg1:Below wr.1.size wr w1:=HBY.out.drew.trans (hb1.mono HBY.out.size);have hq1:BlkB w1 wr.1.size #[.string ⟨y.id.toArray⟩,.string ⟨y.inst.toArray⟩,.int .i64 y.acq,.int .i64 y.opn,.string ⟨y.q.toArray⟩,.string ⟨y.c.toArray⟩,.string ⟨y.u.toArray⟩] 50:=BlkB.here (w:=Wy.drew) HYB.out hb1;have z5:=hq1.cell 5 rfl;have f5:=hq1.frozen 5;have k4:=(fun(u:Value)=>HSS.out _ (Below.set5 (u:=u) hg1)))
      all_goals
       go_wp2_with fail
       go_meet
       exact⟨(by
        show BlkB _ _ _ _
        rw[HZ1.out];have h:=hq1.set 5 (.string ⟨z.c.toArray⟩);simpa only[List.setIfInBounds_toArray,List.set_cons_zero,List.set_cons_succ] using h),Below.set5 hg1,HOW.out.below (Below.set5 hg1)⟩
     case rest=>
      obtain⟨HB5,HW5,HO5⟩:=hcut
      have hq5:BlkB wc wr.1.size #[.string ⟨z.id.toArray⟩,.string ⟨z.inst.toArray⟩,.int .i64 z.acq,.int .i64 z.opn,.string ⟨z.q.toArray⟩,.string ⟨z.c.toArray⟩,.string ⟨z.u.toArray⟩] 50:=HB5.out;have c0:=hq5.cell 0 rfl;have c1_:=hq5.cell 1 rfl;have c2:=hq5.cell 2 rfl;have c3:=hq5.cell 3 rfl;have c4:=hq5.cell 4 rfl;have c5:=hq5.cell 5 rfl;have c6:=hq5.cell 6 rfl;clear HSB HPM HSS y1 y2 y5 HYB HBY HSY HPW hq5;have HA1:=jq (HBR.out.trans (HW5.out.mono HBR.out.size));have HA2:=jq (HA1.out.alloc HA1.out.size (.cells #[.string ⟨z.id.toArray⟩,.string ⟨z.inst.toArray⟩,.int .i64 z.acq,.int .i64 z.opn,.string ⟨z.q.toArray⟩,.string ⟨z.c.toArray⟩,.string ⟨z.u.toArray⟩] 50));have HO2:=jq (HO5.out.alloc (.cells #[.string ⟨z.id.toArray⟩,.string ⟨z.inst.toArray⟩,.int .i64 z.acq,.int .i64 z.opn,.string ⟨z.q.toArray⟩,.string ⟨z.c.toArray⟩,.string ⟨z.u.toArray⟩] 50));have HL1:=jq (ZnG (y:=z) (show BlkB (wc.alloc (.cells #[.string ⟨z.id.toArray⟩,.string ⟨z.inst.toArray⟩,.int .i64 z.acq,.int .i64 z.opn,.string ⟨z.q.toArray⟩,.string ⟨z.c.toArray⟩,.string ⟨z.u.toArray⟩] 50)) wc.1.size (XU z) 50 from heap_alloc_new wc _));have HLK:=jq (show(Qn v.m x.m 0 (ls.take k)).length+1<=100000000000 from Nat.le_trans (Nat.succ_le_succ (Zcj v.m x.m 0 (ls.take k))) (by rw[List.length_take];omega));generalize hkl:Qn v.m x.m 0 (ls.take k)=kl at*;have HKL:=jq hkl;clear hkl
      go_wp2_with (at_builtin;refine Xl _ rfl (.tmp 36) (.tmp 38) _ rfl Jm Ql Vf (base:=W1.1.size) (.slice A1 _ c1) kl rfl HO2.out _ _ 1 1 [z] rfl HL1.out HLK.out HA2.out.size ?_
                   intro A2 c2 w2 ho2 hg2 _)
      go_roundw
      case rel=>
       have hl:(Qn v.m x.m 0 (ls.take (k+1))).length=kl.length+1:=by rw[HK2.out];simp
       exact⟨k+1,at_+1,A2,c2,by omega,by go_num,by go_num,by rw[hl],(show _->_ from fun h=>by rw[HCP.out]),(show Own _ _ _ _ _ _ _ by rw[hl,HK2.out];exact ho2),Qu HA2.out hg2 HA2.out.size (fun g hg=>ZlO HO2.out hg)⟩
      case measure=>simp[intOf];omega
   ·have hi2:(y.inst==v.m.inst)=false:=by simp[hi]
    have HK2:=jq (show Qn v.m x.m 0 (ls.take (k+1))=Qn v.m x.m 0 (ls.take k)++[y] by rw[HKS.out];simp[Qn,hi]);have HCP:=jq (show(ls.take (k+1)).countP (fun z=>decide (z.inst=v.m.inst))=(ls.take k).countP (fun z=>decide (z.inst=v.m.inst)) by rw[HTK.out,List.countP_append];simp[hi]);clear hi;have HA2:=jq (HA1.out.alloc HA1.out.size (.cells #[.string ⟨y.id.toArray⟩,.string ⟨y.inst.toArray⟩,.int .i64 y.acq,.int .i64 y.opn,.string ⟨y.q.toArray⟩,.string ⟨y.c.toArray⟩,.string ⟨y.u.toArray⟩] 50));have HO2:=jq (HO1.out.alloc (.cells #[.string ⟨y.id.toArray⟩,.string ⟨y.inst.toArray⟩,.int .i64 y.acq,.int .i64 y.opn,.string ⟨y.q.toArray⟩,.string ⟨y.c.toArray⟩,.string ⟨y.u.toArray⟩] 50));have HL1:=jq (ZnG (y:=y) (show BlkB ((wr.alloc (.cells #[.string ⟨y.id.toArray⟩,.string ⟨y.inst.toArray⟩,.int .i64 y.acq,.int .i64 y.opn,.string ⟨y.q.toArray⟩,.string ⟨y.c.toArray⟩,.string ⟨y.u.toArray⟩] 50)).alloc (.cells #[.string ⟨y.id.toArray⟩,.string ⟨y.inst.toArray⟩,.int .i64 y.acq,.int .i64 y.opn,.string ⟨y.q.toArray⟩,.string ⟨y.c.toArray⟩,.string ⟨y.u.toArray⟩] 50)) (wr.alloc (.cells #[.string ⟨y.id.toArray⟩,.string ⟨y.inst.toArray⟩,.int .i64 y.acq,.int .i64 y.opn,.string ⟨y.q.toArray⟩,.string ⟨y.c.toArray⟩,.string ⟨y.u.toArray⟩] 50)).heap.size (XU y) 50 from heap_alloc_new (wr.alloc (.cells #[.string ⟨y.id.toArray⟩,.string ⟨y.inst.toArray⟩,.int .i64 y.acq,.int .i64 y.opn,.string ⟨y.q.toArray⟩,.string ⟨y.c.toArray⟩,.string ⟨y.u.toArray⟩] 50)) _));rw[show(wr.alloc (.cells #[.string ⟨y.id.toArray⟩,.string ⟨y.inst.toArray⟩,.int .i64 y.acq,.int .i64 y.opn,.string ⟨y.q.toArray⟩,.string ⟨y.c.toArray⟩,.string ⟨y.u.toArray⟩] 50)).heap.size=wr.1.size+1 by simp] at HL1;have HLK:=jq (show(Qn v.m x.m 0 (ls.take k)).length+1<=100000000000 from Nat.le_trans (Nat.succ_le_succ (Zcj v.m x.m 0 (ls.take k))) (by rw[List.length_take];omega));generalize hkl:Qn v.m x.m 0 (ls.take k)=kl at*;have HKL:=jq hkl;clear hkl
    go_wp2_with (at_builtin;refine Xl _ rfl (.tmp 36) (.tmp 38) _ rfl Jm Ql Vf (base:=W1.1.size) (.slice A1 _ c1) kl rfl HO2.out _ _ 1 1 [y] rfl HL1.out HLK.out HA2.out.size ?_
                 intro A2 c2 w2 ho2 hg2 _)
    go_roundw
    case rel=>
     have hl:(Qn v.m x.m 0 (ls.take (k+1))).length=kl.length+1:=by rw[HK2.out];simp
     exact⟨k+1,at_,A2,c2,by omega,by go_num,rfl,by rw[hl],(show _->_ from fun h=>by rw[HCP.out];exact HAT.out h),(show Own _ _ _ _ _ _ _ by rw[hl,HK2.out];exact ho2),Qu HA2.out hg2 HA2.out.size (fun g hg=>ZlO HO2.out hg)⟩
    case measure=>simp[intOf];omega
  ·obtain rfl:k=n:=by omega
   have HTA:=jq (show ls.take k=ls from List.take_of_length_le (by rw[HLE.out];exact Nat.le_refl _))
   go_wp2
   rw[HPO.out];have ho:=HOW.out;have hwl:w.1.size<=W1.1.size:=by have:=HSZ.out;omega
   rw[HTA.out] at ho ⊢;refine⟨A1,c1,?_,ho.base_ hwl,HBW.out.trans (HBR.out.mono hwl)⟩;rfl
end
section
theorem ZbI{l a:List Lot}{l':List Lot}(z:Lot)(h:Xf l a=some l'):Xf l (a++[z])=if(Yj l' z).2≠0 then none else some (Yj l' z).1:=by
 induction a generalizing l with
 |nil=>
  have e:l=l':=by simpa[Xf] using h
  subst e;simp only[List.nil_append,Xf]
 |cons y a ih=>
  rw[List.cons_append];unfold Xf at h ⊢
  split at h
  ·cases h
  ·rename_i h0
   rw[if_neg h0];exact ih h
theorem Zfw{l a:List Lot}(b:List Lot)(h:Xf l a=none):Xf l (a++b)=none:=by
 induction a generalizing l with
 |nil=>simp[Xf] at h
 |cons y a ih=>
  rw[List.cons_append];unfold Xf at h ⊢
  split at h
  ·rename_i h0;rw[if_pos h0]
  ·rename_i h0;rw[if_neg h0];exact ih h
theorem ZlQ{l:List Lot}{z y:Lot}(h:y∈ZbO l z):y∈l\/y=z:=by
 unfold ZbO at h
 rcases List.mem_append.1 h with h|h
 ·exact .inl (List.mem_of_mem_take h)
 ·rcases List.mem_cons.1 h with h|h
  ·exact .inr h
  ·exact .inl (List.mem_of_mem_drop h)
structure OpA (kept pre l:List Lot):Prop where
 o:Xf kept pre=some l
 len:l.length<=1000
 sz:∀y∈l,y.Sz 50000
theorem OpA.next{kept pre l:List Lot}{z:Lot}(h:OpA kept pre l)(hz:z.Sz 50000)(h0:(Yj l z).2=0):OpA kept (pre++[z]) (Yj l z).1:=by
 have e:Yj l z=(ZbO l z,0)/\l.length<1000:=by
  unfold Yj at h0 ⊢
  split at h0
  ·cases h0
  ·rename_i h1
   rw[if_neg h1]
   split at h0
   ·rename_i h2;exact absurd h0 h2
   ·rename_i h2
    rw[if_neg h2]
    split at h0
    ·cases h0
    ·rename_i h3
     rw[if_neg h3]
     split at h0
     ·cases h0
     ·rename_i h4
      rw[if_neg h4];exact⟨rfl,by omega⟩
 refine⟨by rw[ZbI z h.o,if_neg (by rw[h0];exact fun h=>h rfl)],?_,?_⟩
 ·rw[e.1]
  show(ZbO l z).length<=1000
  unfold ZbO;have:=Zj4 l z.inst
  simp
  omega
 ·intro y hy;rw[e.1] at hy
  rcases ZlQ hy with hy|rfl
  ·exact h.sz y hy
  ·exact hz
theorem PlK.sz{K:Nat}{x:Plan}(h:PlK K x):PlSz2 (K+1) x:=
 ⟨⟨fun i=>Qd (h.n i),fun i=>Qd (h.m i),fun i=>Qd (h.f i),fun i=>Qd (h.p i)⟩,fun i=>Qd (h.mv i),fun i=>Qd (h.rest i)⟩
theorem ZlR{d:Int}(h:Yo d=true): -9223372036854775808<=d/\d<=9223372036854775807:=by
 unfold Yo at h;simp at h;omega
theorem ZcW{s:List UInt8}(h:Qk s=true):s.length<=16:=by
 unfold Qk at h;simp at h;omega
theorem Ziw{m:Mp}{x:Plan}{len i K:Nat}{y:Lot}(h:PlK K x)(hc:m.cause.length<=16)(ho:m.other.length<=16)(hy:y.Ok)(hK:K<=1000)(hi:i<=1000000):(Zg1 m x len i y).Sz 50000:=by
 have a:=ZlR hy.acq;have b:=ZlR hy.opn;have hcn:=Ze2 x.n i;have hd:=VJ (m:=Xc x.n i+1) (L:=7) (by omega);have hq:=Qd (h.n i)
 have hcost:(Qa (x.mv i+if Xc x.n i=0 then x.rest len else 0)).length<=K+2:=by
  refine Qd (L:=K+1) ?_;have h1:=h.mv i;have h2:=h.rest len;rw[Nat.pow_succ];have h3:0<10^K:=Nat.pow_pos (by omega);generalize 10^K=P at*
  split<;>omega
 refine⟨?_,?_,?_,?_,?_,a.1,a.2,b.1,b.2⟩
 ·show(Xi m.cause (Xc x.n i+1)).length<=_
  unfold Xi;rw[List.length_append,List.length_cons];omega
 ·show m.other.length<=_;omega
 ·show(Qa (x.n.getD i 0)).length<=_;omega
 ·show(Qa (x.mv i+if Xc x.n i=0 then x.rest len else 0)).length<=_;omega
 ·show(Qa (x.n.getD i 0)).length<=_;omega
theorem ZgG{m:Mp}{ms:List Int}{K:Nat}(hm:∀i,(ms.getD i 0).natAbs<10^K)(hK:K<=1000)(k:Nat)(l:List Lot)(h:∀y∈l,y.Sz 50000/\y.c.length<=K):∀z∈Qn m ms k l,z.Sz 50000:=by
 induction l generalizing k with
 |nil=>intro z hz;simp[Qn] at hz
 |cons a l ih=>
  intro z hz;have ha:=h a (by simp);have ht:=fun k=>ih k (fun y hy=>h y (by simp[hy]))
  unfold Qn at hz
  split at hz
  ·split at hz
   ·rcases List.mem_cons.1 hz with rfl|hz
    ·have hc:=Qd (Yf (Qp ha.2) (hm k));exact⟨ha.1.id,ha.1.inst,ha.1.q,by show(Qa _).length<=_;omega,ha.1.u,ha.1.a1,ha.1.a2,ha.1.o1,ha.1.o2⟩
    ·exact ht _ z hz
   ·exact ht _ z hz
  ·rcases List.mem_cons.1 hz with rfl|hz
   ·exact ha.1
   ·exact ht _ z hz
theorem ZhN{m:Mp}{x:Plan}{old:List Lot}{z:Nat×Lot}(h:z∈QE m x old):∃y,old[z.1]?=some y/\z.2=Zg1 m x old.length z.1 y:=by
 unfold QE QM at h;obtain⟨i,_,hi⟩:=List.mem_filterMap.1 h
 cases ho:old[i]? with
 |none=>rw[ho] at hi;cases hi
 |some y=>
  rw[ho] at hi
  by_cases h0:x.n.getD i 0=0
  ·simp only[if_pos h0] at hi;cases hi
  ·simp only[if_neg h0,Option.some.injEq] at hi;subst hi;exact⟨y,ho,rfl⟩
theorem ZlS{ls:List Lot}{m:Mp}(h:Xm ls≠0\/mpC m≠0):QQ ls m=(Res.none,1):=by unfold QQ;rw[if_pos h]
theorem ZjC{ls:List Lot}{m:Mp}(h1:Xm ls=0)(h2:mpC m=0)(ho:Qb ls m.inst=[]):QQ ls m=(⟨ls,[],[]⟩,0):=by
 unfold QQ;rw[if_neg (show ¬(Xm ls≠0\/mpC m≠0) from fun h=>h.elim (fun h=>h h1) (fun h=>h h2))];simp only;rw[if_pos ho]
theorem ZhO{ls:List Lot}{m:Mp}(h1:Xm ls=0)(h2:mpC m=0)(ho:Qb ls m.inst≠[]){z:Nat×Lot}(hz:z∈QE m (Qe (Qb ls m.inst) m) (Qb ls m.inst))(hid:z.2.id∈ls.map (·.id)):QQ ls m=(Res.none,5):=by
 unfold QQ;rw[if_neg (show ¬(Xm ls≠0\/mpC m≠0) from fun h=>h.elim (fun h=>h h1) (fun h=>h h2))];simp only;rw[if_neg ho,if_pos];rw[List.any_eq_true];exact⟨z.2,List.mem_map.2 ⟨z,hz,rfl⟩,by simpa using hid⟩
theorem Znf{ls:List Lot}{m:Mp}(h1:Xm ls=0)(h2:mpC m=0)(ho:Qb ls m.inst≠[])(hz:∀z∈QE m (Qe (Qb ls m.inst) m) (Qb ls m.inst),z.2.id ∉ ls.map (·.id)):
 QQ ls m=match Xf (Qn m (Qe (Qb ls m.inst) m).m 0 ls) ((QE m (Qe (Qb ls m.inst) m) (Qb ls m.inst)).map (·.2)) with
  |some l=>(⟨l,Xz m (Qe (Qb ls m.inst) m) (Qb ls m.inst),Zba m (Qe (Qb ls m.inst) m) (Qb ls m.inst)⟩,0)
  |none=>(Res.none,4):=by
 unfold QQ;rw[if_neg (show ¬(Xm ls≠0\/mpC m≠0) from fun h=>h.elim (fun h=>h h1) (fun h=>h h2))];simp only;rw[if_neg ho,if_neg]
 ·rfl
 ·rw[List.any_eq_true];rintro⟨w,hw,hin⟩;obtain⟨z,hz',rfl⟩:=List.mem_map.1 hw
  exact hz z hz' (by simpa using hin)
end
section
def ZhP(s:Stp):Array Value:=#[.string ⟨s.cause.toArray⟩,.string ⟨s.src.toArray⟩,.string ⟨s.dst.toArray⟩,.string ⟨s.q.toArray⟩,.string ⟨s.made.toArray⟩,.string ⟨s.cost.toArray⟩]
theorem Znj(s:Stp):(ZhP s).toList=[s].flatMap S6:=rfl
def ZaA(pO base:Nat)(A1:Option Addr)(n c1:Nat)(xs:List Stp)(W:World)(e:Ending)(w':World):Prop:=
 (∃v,e=.returned v)/\∃A2 c2,Box w' pO 34 (.slice A2 xs.length c2)/\Own S6 6 173 w' base (.slice A2 xs.length c2) xs/\w'.os=W.os/\w'.tape=W.tape/\w'.output=W.output/\W.1.size<=w'.1.size/\∀b,b<W.1.size->b≠pO->some b≠(Value.slice A1 n c1).ownBlock->w'.heap[b]?=W.heap[b]?
theorem ZlV{s:Stp}(h:¬(s.q=[]/\s.made=[]/\s.cost=[])):Yy s=[s]:=if_neg h
theorem Znk{s:Stp}(h:s.q=[]/\s.made=[]/\s.cost=[]):Yy s=[]:=if_pos h
theorem ZgM(s:Stp)(pO base c1:Nat)(A1:Option Addr)(xs:List Stp)(W:World)(hB:Box W pO 34 (.slice A1 xs.length c1))(ho:Own S6 6 173 W base (.slice A1 xs.length c1) xs)(hl:xs.length<=100000)(hb:base<=W.1.size):
 Calls Tryz.prog 110 (#[.agg (ZhP s)]++#[.pointer (some ⟨pO,0,none⟩)]) W (ZaA pO base A1 xs.length c1 (xs++Yy s) W):=by
 have HPO:=jq (show ZaA pO base A1 xs.length c1 (xs++Yy s) W=fun e w'=>(∃v,e=.returned v)/\∃A2 c2,Box w' pO 34 (.slice A2 (xs++Yy s).length c2)/\Own S6 6 173 w' base (.slice A2 (xs++Yy s).length c2) (xs++Yy s)/\w'.os=W.os/\w'.tape=W.tape/\w'.output=W.output/\W.1.size<=w'.1.size/\∀b,b<W.1.size->b≠pO->some b≠(Value.slice A1 xs.length c1).ownBlock->w'.heap[b]?=W.heap[b]? from rfl);generalize ZaA pO base A1 xs.length c1 (xs++Yy s) W=post at*;have bx:=hB.cell;have hlt:pO<W.1.size:=hB.lt;have hne:pO≠W.1.size:=by omega
 have HA:=jq ((hB.alloc (.cells (ZhP s) 173)));have HO:=jq ((ho.alloc (.cells (ZhP s) 173)));have HB0:=jq hB;have HO0:=jq ho;have hsl:=Sl.lit (enc:=S6) (k:=6) (W.alloc (.cells (ZhP s) 173)) (ZhP s) 173 [s] (Znj s) ZlU;simp only[World.size_alloc] at hsl;have HSL:=jq hsl;clear hsl;have HLE:=jq (show xs.length+1<=100000000000 by omega);have HBB:=jq hb;have HS1:=jq (ZlV (s:=s));have HS0:=jq (Znk (s:=s));clear hB ho hl hb;have HSC:=jq (show ZhP s=#[.string ⟨s.cause.toArray⟩,.string ⟨s.src.toArray⟩,.string ⟨s.dst.toArray⟩,.string ⟨s.q.toArray⟩,.string ⟨s.made.toArray⟩,.string ⟨s.cost.toArray⟩] from rfl)
 have hcase:(s.q.isEmpty=true/\s.made.isEmpty=true/\s.cost.isEmpty=true)\/(s.q.isEmpty=false)\/(s.q.isEmpty=true/\s.made.isEmpty=false)\/(s.q.isEmpty=true/\s.made.isEmpty=true/\s.cost.isEmpty=false):=by
  cases s.q.isEmpty<;>cases s.made.isEmpty<;>cases s.cost.isEmpty<;>simp
 rw[HSC.out] at HA HO HSL;rw[HSC.out];clear HSC
 rcases hcase with ⟨h1,h2,h3⟩|hy
 ·have HXS:=jq (show xs++Yy s=xs by rw[HS0.out ⟨List.isEmpty_iff.1 h1,List.isEmpty_iff.1 h2,List.isEmpty_iff.1 h3⟩,List.append_nil])
  have g1:(s.q==[])=true:=by rw[<-h1];cases s.q<;>rfl
  have g2:(s.made==[])=true:=by rw[<-h2];cases s.made<;>rfl
  have g3:(s.cost==[])=true:=by rw[<-h3];cases s.cost<;>rfl
  go_enter Tryz.func110,Tryz.ntmps110
  go_wp2
  refine bodyPost_ret (results_none rfl _ _ _) rfl ?_;rw[HPO.out,HXS.out];exact⟨⟨_,rfl⟩,A1,c1,HA.out,HO.out,rfl,rfl,rfl,by simp,fun b hb _ _=>Below.heap_alloc W _ b hb⟩
 ·have HXS:=jq (show xs++Yy s=xs++[s] by
   rw[HS1.out];rintro⟨e1,e2,e3⟩;rw[e1,e2,e3] at hy;simp at hy)
  have HX2:=jq (HA.out.alloc (.cells #[.string ⟨s.cause.toArray⟩,.string ⟨s.src.toArray⟩,.string ⟨s.dst.toArray⟩,.string ⟨s.q.toArray⟩,.string ⟨s.made.toArray⟩,.string ⟨s.cost.toArray⟩] 173));have HO2:=jq (HO.out.alloc (.cells #[.string ⟨s.cause.toArray⟩,.string ⟨s.src.toArray⟩,.string ⟨s.dst.toArray⟩,.string ⟨s.q.toArray⟩,.string ⟨s.made.toArray⟩,.string ⟨s.cost.toArray⟩] 173));have hsz:(W.alloc (.cells #[.string ⟨s.cause.toArray⟩,.string ⟨s.src.toArray⟩,.string ⟨s.dst.toArray⟩,.string ⟨s.q.toArray⟩,.string ⟨s.made.toArray⟩,.string ⟨s.cost.toArray⟩] 173)).heap.size=W.1.size+1:=by simp
  have HS2:=jq hsz;clear hsz;have HAL:Hid (∀b,b<W.1.size->((W.alloc (.cells #[.string ⟨s.cause.toArray⟩,.string ⟨s.src.toArray⟩,.string ⟨s.dst.toArray⟩,.string ⟨s.q.toArray⟩,.string ⟨s.made.toArray⟩,.string ⟨s.cost.toArray⟩] 173)).alloc (.cells #[.string ⟨s.cause.toArray⟩,.string ⟨s.src.toArray⟩,.string ⟨s.dst.toArray⟩,.string ⟨s.q.toArray⟩,.string ⟨s.made.toArray⟩,.string ⟨s.cost.toArray⟩] 173)).heap[b]?=W.heap[b]?):=jq (fun b hb=>(Below.heap_alloc _ _ b (by simp;omega)).trans (Below.heap_alloc W _ b hb));have HB3:=jq (show base<=((W.alloc (.cells #[.string ⟨s.cause.toArray⟩,.string ⟨s.src.toArray⟩,.string ⟨s.dst.toArray⟩,.string ⟨s.q.toArray⟩,.string ⟨s.made.toArray⟩,.string ⟨s.cost.toArray⟩] 173)).alloc (.cells #[.string ⟨s.cause.toArray⟩,.string ⟨s.src.toArray⟩,.string ⟨s.dst.toArray⟩,.string ⟨s.q.toArray⟩,.string ⟨s.made.toArray⟩,.string ⟨s.cost.toArray⟩] 173)).heap.size by have:=HBB.out;simp;omega)
  rcases hy with h1|⟨h1,h2⟩|⟨h1,h2,h3⟩
  all_goals
   first
    |(have g1:(s.q==[])=true:=by rw[<-h1];cases s.q<;>rfl)
    |(have g1:(s.q==[])=false:=by rw[<-h1];cases s.q<;>rfl)
   first
    |(have g2:(s.made==[])=true:=by rw[<-h2];cases s.made<;>rfl)
    |(have g2:(s.made==[])=false:=by rw[<-h2];cases s.made<;>rfl)
    |skip
   first
    |(have g3:(s.cost==[])=false:=by rw[<-h3];cases s.cost<;>rfl)
    |skip
   go_enter Tryz.func110,Tryz.ntmps110
   go_wp2_with (at_builtin;refine Xl _ rfl (.tmp 16) (.tmp 18) _ rfl ZjE ZlU Zng (base:=base) (.slice A1 xs.length c1) xs rfl HO2.out _ _ 1 1 [s] rfl HSL.out HLE.out HB3.out ?_
                intro A2 c2 w2 ho2 hg2 hat2;have hb2:=HX2.out.grown hg2 (HO2.out.neBox HX2.out (by decide));have cb2:=hb2.cell;have fb2:=hb2.frozen)
   refine bodyPost_ret (results_none rfl _ _ _) rfl ?_;rw[HPO.out,HXS.out,List.length_append];exact⟨⟨_,rfl⟩,A2,c2,hb2.set_ _,ho2.far (fun h=>ho2.neBox hb2 (by decide) h.symm) _,hg2.os,hg2.tape,hg2.output,by have:=hg2.size;have:=HS2.out;simp at *; omega,fun b hb h1 h2=>(Below.heap_setCell _ _ _ _ h1).trans ((hg2.block b (by simp;omega) h2).trans (HAL.out b hb))⟩
end
section
structure Kp3 (p q:Nat) (A B:World):Prop where
 os:B.os=A.os
 tape:B.tape=A.tape
 output:B.output=A.output
 size:A.1.size<=B.1.size
 blk:∀b,b<A.1.size->b≠p->b≠q->B.heap[b]?=A.heap[b]?
section
variable {p q:Nat} {A B C:World}
theorem Kp3.refl(p q:Nat)(A:World):Kp3 p q A A:=⟨rfl,rfl,rfl,Nat.le_refl _,fun _ _ _ _=>rfl⟩
theorem Kp3.below(h:Kp3 p q A B)(hb:Below B.1.size B C):Kp3 p q A C:=⟨hb.os.trans h.os,hb.tape.trans h.tape,hb.output.trans h.output,Nat.le_trans h.size hb.size,fun b hA h1 h2=>(hb.block b (Nat.lt_of_lt_of_le hA h.size)).trans (h.blk b hA h1 h2)⟩
theorem Kp3.alloc(h:Kp3 p q A B)(o:Obj):Kp3 p q A (B.alloc o):=h.below ((Below.refl _ _).alloc (Nat.le_refl _) _)
theorem Kp3.drew(h:Kp3 p q A B):Kp3 p q A B.drew:=h.below (Below.refl _ _).drew
theorem Kp3.set2(h:Kp3 p q A B)(j:Nat)(u:Value):Kp3 p q A (B.setCell ⟨q,j,none⟩ u):=⟨h.os,h.tape,h.output,by simp;exact h.size,fun b hA h1 h2=>(Below.heap_setCell B ⟨q,j,none⟩ u b h2).trans (h.blk b hA h1 h2)⟩
theorem Kp3.add(h:Kp3 p q A B){own:Option Nat}(h1:C.os=B.os)(h2:C.tape=B.tape)(h3:C.output=B.output)(h4:B.1.size<=C.1.size)(h5:∀b,b<B.1.size->b≠p->some b≠own->C.heap[b]?=B.heap[b]?)(ho:∀g,own=some g->A.1.size<=g):Kp3 p q A C:=
 ⟨h1.trans h.os,h2.trans h.tape,h3.trans h.output,Nat.le_trans h.size h4,fun b hA hp hq=>(h5 b (Nat.lt_of_lt_of_le hA h.size) hp (fun e=>by have:=ho b e.symm;omega)).trans (h.blk b hA hp hq)⟩
theorem Kp3.under{w:World}{N:Nat}(h:Kp3 p q A B)(hb:Below N w A)(hN:N<=A.1.size)(hp:N<=p)(hq:N<=q):Below N w B:=
 ⟨h.os.trans hb.os,h.tape.trans hb.tape,h.output.trans hb.output,Nat.le_trans hb.size h.size,fun b hb'=>(h.blk b (by omega) (by omega) (by omega)).trans (hb.block b hb')⟩
theorem Kp3.blkB{b:Nat}{cs:Array Value}{T:TypeId}(h:Kp3 p q A B)(hb:BlkB A b cs T)(h1:b≠p)(h2:b≠q):BlkB B b cs T:=(h.blk b hb.lt h1 h2).trans hb
theorem Kp3.box{b:Nat}{v:Value}{T:TypeId}(h:Kp3 p q A B)(hb:Box A b T v)(h1:b≠p)(h2:b≠q):Box B b T v:=(h.blk b hb.lt h1 h2).trans hb
theorem Kp3.pl{n₀ pn pm pf pp:Nat}{v:PlV}{x:Plan}{old:List Lot}(h:Kp3 p q A B)(hM:PlM A n₀ v x old pn pm pf pp)(hn:n₀<=A.1.size)(h1:n₀<=p)(h2:n₀<=q):PlM B n₀ v x old pn pm pf pp:=
 hM.kept hn (fun b hb=>h.blk b (by omega) (by omega) (by omega))
end
end
section
attribute [local go_sem ↓] Go.wp_at_zero Go.wp_at_succ VQ
theorem ZjH(q:Rat):(QV q 0==0)=decide (q=0):=by
 unfold QV
 by_cases h1:q<0
 ·have:q≠0:=fun e=>by rw[e] at h1;exact Rat.lt_irrefl h1
  simp[h1,this]
 ·rw[if_neg h1]
  by_cases h2:0<q
  ·have:q≠0:=fun e=>by rw[e] at h2;exact Rat.lt_irrefl h2
   simp[h2,this]
  ·have h1':=Rat.not_lt.1 h1;have h2':=Rat.not_lt.1 h2;have:q=0:=Rat.le_antisymm h2' h1'
   simp[this]
def ZlY(g:Gain):Array Value:=#[.string ⟨g.cause.toArray⟩,.string ⟨g.lot.toArray⟩,.string ⟨g.inst.toArray⟩,.int .i64 g.acq,.int .i64 g.closed,.string ⟨g.q.toArray⟩,.string ⟨g.proceeds.toArray⟩,.string ⟨g.cost.toArray⟩,.string ⟨g.deferred.toArray⟩,.string ⟨g.replaced.toArray⟩]
theorem ZlZ(g:Gain):(ZlY g).toList=[g].flatMap G10:=rfl
theorem Ziz{W:World}{base g:Nat}{u:Value}{xs:List Gain}(h:Own G10 10 47 W base u xs)(hg:u.ownBlock=some g):base<=g/\g<W.1.size:=by
 obtain⟨A,c,rfl,_,_,_,h5⟩:=h.form
 exact(h5 g hg).2
theorem ZjI(v:PlV)(x:Plan)(old:List Lot)(pn pm pf pp n₀:Nat)(w:World)(hp:Env w)(hM:PlM w n₀ v x old pn pm pf pp)(hn₀:n₀<=w.1.size)(hz:(Qg x.part).Sz 20000)(hn:old.length<=1000):
 Calls Tryz.prog 67 #[.agg (plA v).toArray] w (RetOwn G10 10 47 w.1.size w (Xz v.m x old)):=by
 rw[Yt];have HB:=jq (show BlkB (w.alloc (.cells (QN v) 117)) w.1.size (QN v) 117 from heap_alloc_new w _);have HBW:=jq ((Below.refl w.1.size w).alloc (Nat.le_refl _) (.cells (QN v) 117));have HSZ:=jq (show(w.alloc (.cells (QN v) 117)).heap.size=w.1.size+1 by simp);have hp1:=jq (hp.here HBW.out);have HM:=jq (hM.below (HBW.out.mono hn₀));have HSG:=jq (Vr (Qg x.part) hz (w.alloc (.cells (QN v) 117)) hp1.out);rw[Qh] at HSG;have HSZ0:=jq (ZjH x.part);have hnl:v.on<=1000:=by rw[hM.len];exact hn
 obtain⟨N,hN⟩:∃N,N=v.on:=⟨_,rfl⟩
 have HNN:=jq hN;have HLN:=jq (show N=old.length by rw[hN];exact hM.len);have E0:=jq (show(QN v)[0]?=some (.string ⟨v.m.cause.toArray⟩) from rfl);have E1:=jq (show(QN v)[1]?=some (.int .i64 v.m.day) from rfl);have E3:=jq (show(QN v)[3]?=some (.string ⟨v.m.other.toArray⟩) from rfl);have E11:=jq (show(QN v)[11]?=some (.slice v.oA N v.oc) by rw[hN];rfl);have E13:=jq (show(QN v)[13]?=some (.string ⟨(Qg x.part).n.toArray⟩) by rw[<-hM.part];rfl);have E14:=jq (show(QN v)[14]?=some (.string ⟨(Qg x.part).d.toArray⟩) by rw[<-hM.part];rfl);have E17:=jq (show(QN v)[17]?=some (.slice (some ⟨pf,0,none⟩) N N) by rw[hN,<-hM.ef];rfl);have E18:=jq (show(QN v)[18]?=some (.slice (some ⟨pp,0,none⟩) N N) by rw[hN,<-hM.ep];rfl);have HPO:=jq (show RetOwn G10 10 47 w.1.size w (Xz v.m x old)=fun e w'=>∃A c,e=.returned (.slice A (Xz v.m x old).length c)/\Own G10 10 47 w' w.1.size (.slice A (Xz v.m x old).length c) (Xz v.m x old)/\Below w.1.size w w' from rfl);have HGL:=jq (show Xz v.m x old=if x.part=0 then[] else QZ v.m x old old.length from rfl);generalize RetOwn G10 10 47 w.1.size w (Xz v.m x old)=post at*;generalize Xz v.m x old=gl at*;generalize QN v=pb at*;have hnl2:N<=1000:=by rw[hN];exact hnl
 generalize hoA:v.oA=oA at*;generalize v.oc=oc at*;have HOA:=jq hoA;have HNW:=jq hn₀;have c11:=HB.out.cell 11 E11.out;have c13:=HB.out.cell 13 E13.out;have c14:=HB.out.cell 14 E14.out;generalize Qg x.part=fpt at*;generalize QV x.part 0=sg at*;clear hp hM hz hn hn₀ hN hnl hoA;unfold Qy S at HSG;go_enter Tryz.func67,Tryz.ntmps67
 go_wp2_with fail
 generalize w.alloc (.cells pb 117)=W1 at*;refine HSG.out.mono ?_;rintro e w1 ⟨rfl,hb⟩
 by_cases h0:x.part=0
 ·have hs0:(sg==0)=true:=by rw[HSZ0.out];simp[h0]
  rw[if_pos h0] at HGL;clear h0;go_wp2_with fail
  first|go_ret|skip
  rw[HPO.out,HGL.out];exact⟨none,0,rfl,Own.nil,HBW.out.trans (hb.mono HBW.out.size)⟩
 ·have hs0:(sg==0)=false:=by rw[HSZ0.out];simp[h0]
  rw[if_neg h0] at HGL;clear h0;have HB1:=jq hb;have HBB:=jq (HB.out.here hb);clear hb c11 c13 c14;have c11:=HBB.out.cell 11 E11.out;go_wp2_with fail
  go_loopw [3,4,5,13] (fun s _ _ j wr=>∃(k:Nat) (A1:Option Addr) (c1:Nat),k<=N/\j=.int .i64 k/\s=.slice A1 (QZ v.m x old k).length c1/\Hid (Own G10 10 47 wr W1.1.size (.slice A1 (QZ v.m x old k).length c1) (QZ v.m x old k))/\Hid (Below W1.1.size W1 wr)) (fun _ _ _ j _=>N-(intOf j).toNat)
  case atStart=>exact⟨0,none,0,Nat.zero_le _,rfl,rfl,Own.nil,HB1.out⟩
  case round=>
   clear c11;obtain⟨k,A1,c1,hk,rfl,rfl,HOW,HBR⟩:=hrel
   have HBX:=jq (show BlkB wr w.1.size pb 117 from(HBR.out.block _ HB.out.lt).trans HB.out);have hnw:n₀<=W1.1.size:=by have:=HNW.out;have:=HSZ.out;omega
   by_cases hlt:k<N
   ·have hLT:Xg wr n₀ oA N old:=by rw[HNN.out,<-HOA.out];exact(HM.out.below (HBR.out.mono hnw)).lots
    obtain⟨b,off,y,hAe,hb,hy,d0,d1,d2,d3,d4,d5,d6⟩:=hLT.lot7 hlt
    subst hAe;have HGS:=jq (ZgH v.m x old k);rw[hy] at HGS;have HGK:=jq (ZdT v.m x old k);clear hy hLT;have c17:=HBX.out.cell 17 E17.out;have c18:=HBX.out.cell 18 E18.out
    have HPM:=jq (show ∀X,Below W1.1.size W1 X->X.cell? ⟨pp,k,none⟩=some (.string ⟨(Qa (x.p.getD k 0)).toArray⟩)/\X.cell? ⟨pf,k,none⟩=some (.string ⟨(Qa (x.f.getD k 0)).toArray⟩) from fun X hX=>
     ⟨(HM.out.below (hX.mono hnw)).bp.cell k (by rw[<-HNN.out,QD _ _ _ _ hlt,if_pos hlt]),(HM.out.below (hX.mono hnw)).bf.cell k (by rw[<-HNN.out,QD _ _ _ _ hlt,if_pos hlt])⟩)
    have hpl:pp<W1.1.size/\pf<W1.1.size:=⟨HM.out.bp.lt,HM.out.bf.lt⟩;obtain⟨ppk,pfk⟩:=HPM.out wr HBR.out
    have hwr:=HBR.out.size;have hwl:w.1.size<wr.1.size:=HBX.out.lt;have nb:w.1.size≠wr.1.size:=by omega
    have np:pp≠wr.1.size:=by omega
    have nf:pf≠wr.1.size:=by omega
    have lp:pp<wr.1.size:=by omega
    have lf:pf<wr.1.size:=by omega
    have i1:(0:Int)<=(k:Int):=by omega
    have i2:(k:Int)<(N:Int):=by omega
    have HA1:=jq (HBR.out.alloc HBR.out.size (.cells #[.string ⟨y.id.toArray⟩,.string ⟨y.inst.toArray⟩,.int .i64 y.acq,.int .i64 y.opn,.string ⟨y.q.toArray⟩,.string ⟨y.c.toArray⟩,.string ⟨y.u.toArray⟩] 50));have HO1:=jq (HOW.out.alloc (.cells #[.string ⟨y.id.toArray⟩,.string ⟨y.inst.toArray⟩,.int .i64 y.acq,.int .i64 y.opn,.string ⟨y.q.toArray⟩,.string ⟨y.c.toArray⟩,.string ⟨y.u.toArray⟩] 50));have HYB:=jq (heap_alloc_new wr (.cells #[.string ⟨y.id.toArray⟩,.string ⟨y.inst.toArray⟩,.int .i64 y.acq,.int .i64 y.opn,.string ⟨y.q.toArray⟩,.string ⟨y.c.toArray⟩,.string ⟨y.u.toArray⟩] 50));clear hwr hpl
    by_cases hno:x.p.getD k 0=0/\x.f.getD k 0=0
    ·have HG2:=jq (show QZ v.m x old (k+1)=QZ v.m x old k by rw[HGS.out];simp only[if_pos hno,List.append_nil]);have hp1:(Qa (x.p.getD k 0)==[])=true:=by rw[YM];exact decide_eq_true hno.1
     have hp2:(Qa (x.p.getD k 0)).isEmpty=true:=by rw[Vd];exact hp1
     have hf1:(Qa (x.f.getD k 0)==[])=true:=by rw[YM];exact decide_eq_true hno.2
     have hf2:(Qa (x.f.getD k 0)).isEmpty=true:=by rw[Vd];exact hf1
     generalize Qa (x.p.getD k 0)=tp at*;generalize Qa (x.f.getD k 0)=tf at*;clear hno
     go_wp2
     go_roundw
     case rel=>exact⟨k+1,A1,c1,by omega,by go_num,by rw[HG2.out],(show Own _ _ _ _ _ _ _ by rw[HG2.out];exact HO1.out),HA1⟩
     case measure=>simp[intOf];omega
    ·obtain⟨g,hg⟩:∃g:Gain,g={cause:=v.m.cause,lot:=y.id,inst:=v.m.other,acq:=y.acq,closed:=v.m.day,q:=[],proceeds:=Qa (x.p.getD k 0),cost:=Qa (x.f.getD k 0),deferred:=[],replaced:=[]}:=⟨_,rfl⟩
     have HG2:=jq (show QZ v.m x old (k+1)=QZ v.m x old k++[g] by rw[HGS.out,hg];simp only[if_neg hno]);have HGC:=jq (show ZlY g=#[.string ⟨v.m.cause.toArray⟩,.string ⟨y.id.toArray⟩,.string ⟨v.m.other.toArray⟩,.int .i64 y.acq,.int .i64 v.m.day,.string ⟨#[]⟩,.string ⟨(Qa (x.p.getD k 0)).toArray⟩,.string ⟨(Qa (x.f.getD k 0)).toArray⟩,.string ⟨#[]⟩,.string ⟨#[]⟩] by rw[hg];rfl)
     have HSS:=jq (show ∀X,Below W1.1.size W1 X->BlkB X wr.1.size #[.string ⟨y.id.toArray⟩,.string ⟨y.inst.toArray⟩,.int .i64 y.acq,.int .i64 y.opn,.string ⟨y.q.toArray⟩,.string ⟨y.c.toArray⟩,.string ⟨y.u.toArray⟩] 50->
      X.cell? ⟨w.1.size,0,none⟩=some (.string ⟨v.m.cause.toArray⟩)/\X.cell? ⟨w.1.size,1,none⟩=some (.int .i64 v.m.day)/\X.cell? ⟨w.1.size,3,none⟩=some (.string ⟨v.m.other.toArray⟩)/\X.cell? ⟨w.1.size,17,none⟩=some (.slice (some ⟨pf,0,none⟩) N N)/\X.cell? ⟨w.1.size,18,none⟩=some (.slice (some ⟨pp,0,none⟩) N N)/\
      X.cell? ⟨pp,k,none⟩=some (.string ⟨(Qa (x.p.getD k 0)).toArray⟩)/\X.cell? ⟨pf,k,none⟩=some (.string ⟨(Qa (x.f.getD k 0)).toArray⟩)/\X.cell? ⟨wr.1.size,0,none⟩=some (.string ⟨y.id.toArray⟩)/\X.cell? ⟨wr.1.size,2,none⟩=some (.int .i64 y.acq) from fun X hX hq=>
        ⟨BlkB.cell ((hX.block _ HB.out.lt).trans HB.out) 0 E0.out,BlkB.cell ((hX.block _ HB.out.lt).trans HB.out) 1 E1.out,BlkB.cell ((hX.block _ HB.out.lt).trans HB.out) 3 E3.out,BlkB.cell ((hX.block _ HB.out.lt).trans HB.out) 17 E17.out,BlkB.cell ((hX.block _ HB.out.lt).trans HB.out) 18 E18.out,(HPM.out X hX).1,(HPM.out X hX).2,hq.cell 0 rfl,hq.cell 2 rfl⟩)
     have hcase:(Qa (x.p.getD k 0)==[])=false\/((Qa (x.p.getD k 0)==[])=true/\(Qa (x.f.getD k 0)==[])=false):=by
      rw[YM,YM]
      by_cases h1:x.p.getD k 0=0
      ·exact .inr ⟨decide_eq_true h1,decide_eq_false (fun h2=>hno ⟨h1,h2⟩)⟩
      ·exact .inl (decide_eq_false h1)
     have HL:=jq (show(QZ v.m x old k).length<=1000 by have:=HGK.out;omega);generalize QZ v.m x old k=gk at*;generalize Qa (x.p.getD k 0)=tp at*;generalize Qa (x.f.getD k 0)=tf at*;clear hno hg HGS HGK HPM;have HNB:=jq nb;have HO0:=jq HOW.out;have HO1':Own G10 10 47 wr W1.1.size (.slice A1 gk.length c1) gk:=HOW.out;have HX1:=jq HO1';clear HO1' HO0
     rcases hcase with hp1|⟨hp1,hf1⟩
     all_goals
      first
       |have hp2:tp.isEmpty=false:=by rw[Vd];exact hp1
       |(have hp2:tp.isEmpty=true:=by rw[Vd];exact hp1
         have hf2:tf.isEmpty=false:=by rw[Vd];exact hf1)
      go_wp2
      generalize wr.alloc _=Wy at*;have hq1:BlkB Wy.drew wr.1.size #[.string ⟨y.id.toArray⟩,.string ⟨y.inst.toArray⟩,.int .i64 y.acq,.int .i64 y.opn,.string ⟨y.q.toArray⟩,.string ⟨y.c.toArray⟩,.string ⟨y.u.toArray⟩] 50:=HYB.out;have hb1:Below W1.1.size W1 Wy.drew:=HA1.out.drew;have hq2:BlkB (Wy.alloc (.cells #[.string ⟨v.m.cause.toArray⟩,.string ⟨y.id.toArray⟩,.string ⟨v.m.other.toArray⟩,.int .i64 y.acq,.int .i64 v.m.day,.string ⟨#[]⟩,.string ⟨tp.toArray⟩,.string ⟨tf.toArray⟩,.string ⟨#[]⟩,.string ⟨#[]⟩] 47)).drew wr.1.size #[.string ⟨y.id.toArray⟩,.string ⟨y.inst.toArray⟩,.int .i64 y.acq,.int .i64 y.opn,.string ⟨y.q.toArray⟩,.string ⟨y.c.toArray⟩,.string ⟨y.u.toArray⟩] 50:=BlkB.alloc HYB.out _;have hb2:Below W1.1.size W1 (Wy.alloc (.cells #[.string ⟨v.m.cause.toArray⟩,.string ⟨y.id.toArray⟩,.string ⟨v.m.other.toArray⟩,.int .i64 y.acq,.int .i64 v.m.day,.string ⟨#[]⟩,.string ⟨tp.toArray⟩,.string ⟨tf.toArray⟩,.string ⟨#[]⟩,.string ⟨#[]⟩] 47)).drew:=(HA1.out.alloc HA1.out.size _).drew;have hown2:Own G10 10 47 (Wy.alloc (.cells #[.string ⟨v.m.cause.toArray⟩,.string ⟨y.id.toArray⟩,.string ⟨v.m.other.toArray⟩,.int .i64 y.acq,.int .i64 v.m.day,.string ⟨#[]⟩,.string ⟨tp.toArray⟩,.string ⟨tf.toArray⟩,.string ⟨#[]⟩,.string ⟨#[]⟩] 47)).drew W1.1.size (.slice A1 gk.length c1) gk:=(HO1.out.alloc _).drew
      have hsl2:Gns (Wy.alloc (.cells #[.string ⟨v.m.cause.toArray⟩,.string ⟨y.id.toArray⟩,.string ⟨v.m.other.toArray⟩,.int .i64 y.acq,.int .i64 v.m.day,.string ⟨#[]⟩,.string ⟨tp.toArray⟩,.string ⟨tf.toArray⟩,.string ⟨#[]⟩,.string ⟨#[]⟩] 47)).drew (Wy.1.size+1) (some ⟨Wy.1.size,0,none⟩) 1 [g]:=by
       have h:=(Sl.lit (enc:=G10) (k:=10) Wy (ZlY g) 47 [g] (ZlZ g) ZcX).drew;rw[HGC.out] at h;exact h
      have HQ1:=jq hq1;have HB1':=jq hb1;have HQ2:=jq hq2;have HB2:=jq hb2;have HW2:=jq hown2;have HS2:=jq hsl2;clear hq1 hb1 hq2 hb2 hown2 hsl2;have hgl:gk.length+1<=100000000000:=by have:=HL.out;omega
      have HGE:=jq hgl;clear hgl c17 c18 ppk pfk
      go_region_held3 (fun X=>X.cell? ⟨w.1.size,0,none⟩=some (.string ⟨v.m.cause.toArray⟩)/\X.cell? ⟨w.1.size,1,none⟩=some (.int .i64 v.m.day)/\X.cell? ⟨w.1.size,3,none⟩=some (.string ⟨v.m.other.toArray⟩)/\X.cell? ⟨w.1.size,17,none⟩=some (.slice (some ⟨pf,0,none⟩) N N)/\X.cell? ⟨w.1.size,18,none⟩=some (.slice (some ⟨pp,0,none⟩) N N)/\X.cell? ⟨pp,k,none⟩=some (.string ⟨tp.toArray⟩)/\X.cell? ⟨pf,k,none⟩=some (.string ⟨tf.toArray⟩)/\X.cell? ⟨wr.1.size,0,none⟩=some (.string ⟨y.id.toArray⟩)/\X.cell? ⟨wr.1.size,2,none⟩=some (.int .i64 y.acq))
       (first
         |with_reducible exact k2
         |with_reducible exact HSS.out _ HB1'.out HQ1.out
         |with_reducible exact HSS.out _ HB2.out HQ2.out
         |go_keep)
       ((refine JV _ (by rfl) (.tmp 32) (.tmp 57) _ (by rfl) ZjD ZcX ZlT (.slice A1 gk.length c1) gk (by rfl) HW2.out _ _ 1 1 [g] (by rfl) HS2.out HGE.out HB2.out.size ?_
         intro A2 c2 w2 ho2 hg2 _;have hb3:=Qu HB2.out hg2 HB2.out.size (fun g hg=>(Ziz HW2.out hg).1)
         have hq3:BlkB w2 wr.1.size #[.string ⟨y.id.toArray⟩,.string ⟨y.inst.toArray⟩,.int .i64 y.acq,.int .i64 y.opn,.string ⟨y.q.toArray⟩,.string ⟨y.c.toArray⟩,.string ⟨y.u.toArray⟩] 50:=(hg2.block _ HQ2.out.lt (fun e=>by
          have:=(Ziz HX1.out e.symm).2
          omega)).trans HQ2.out
         have k2:=HSS.out w2 hb3 hq3))
      all_goals
       go_wp2_with fail
       go_roundw
       case rel=>
        have hl:(QZ v.m x old (k+1)).length=gk.length+1:=by rw[HG2.out];simp
        exact⟨k+1,A2,c2,by omega,by go_num,by rw[hl],(show Own _ _ _ _ _ _ _ by rw[hl,HG2.out];exact ho2),hb3⟩
       case measure=>simp[intOf];omega
   ·obtain rfl:k=N:=by omega
    go_wp2_with fail
    first|go_ret|skip
    rw[HPO.out,HGL.out,<-HLN.out];exact⟨A1,c1,rfl,HOW.out.base_ HBW.out.size,HBW.out.trans (HBR.out.mono HBW.out.size)⟩
end
section
theorem Own.sets4{α:Type}{enc:α->List Value}{k base:Nat}{e:TypeId}{v:Value}{xs:List α}{X:World}{p:Nat}{cs:Array Value}{T:TypeId}(h:Own enc k e X base v xs)(hb:BlkB X p cs T)(hn:e≠T)(a b c d:Value):
 Own enc k e ((((X.setCell ⟨p,0,none⟩ a).setCell ⟨p,1,none⟩ b).setCell ⟨p,2,none⟩ c).setCell ⟨p,3,none⟩ d) base v xs:=
 (((h.farB hb hn 0 a).farB (hb.set 0 a) hn 1 b).farB ((hb.set 0 a).set 1 b) hn 2 c).farB (((hb.set 0 a).set 1 b).set 2 c) hn 3 d
theorem ZdW(ls l:List Lot)(y:Lot):Qr ls (l++[y])=Qr ls l++if y.id∈ls.map (·.id) then[] else[y]:=by
 unfold Qr;rw[List.filter_append]
 congr 1
 by_cases h:y.id∈ls.map (·.id)
 ·rw[if_pos h,List.filter_cons_of_neg (by simpa using h)];rfl
 ·rw[if_neg h,List.filter_cons_of_pos (by simpa using h)];rfl
theorem Zck(ls l:List Lot):(Qr ls l).length<=l.length:=List.length_filter_le _ _
end
section
theorem Lot.Sz.more{L K:Nat}{y:Lot}(h:y.Sz L)(hK:L<=K):y.Sz K:=⟨Nat.le_trans h.id hK,Nat.le_trans h.inst hK,Nat.le_trans h.q hK,Nat.le_trans h.c hK,Nat.le_trans h.u hK,h.a1,h.a2,h.o1,h.o2⟩
theorem Zno{m:Mp}{ms:List Int}{K:Nat}(hm:∀i,(ms.getD i 0).natAbs<10^K)(k:Nat)(l:List Lot)(h:∀y∈l,y.q.length<=K/\y.c.length<=K):∀z∈Qn m ms k l,z.q.length<=K+2/\z.c.length<=K+2:=by
 induction l generalizing k with
 |nil=>intro z hz;simp[Qn] at hz
 |cons a l ih=>
  intro z hz;have ha:=h a (by simp);have ht:=fun k=>ih k (fun y hy=>h y (by simp[hy]))
  unfold Qn at hz
  split at hz
  ·split at hz
   ·rcases List.mem_cons.1 hz with rfl|hz
    ·have hc:=Qd (Yf (Qp ha.2) (hm k));exact⟨by show a.q.length<=_;omega,by show(Qa _).length<=_;omega⟩
    ·exact ht _ z hz
   ·exact ht _ z hz
  ·rcases List.mem_cons.1 hz with rfl|hz
   ·omega
   ·exact ht _ z hz
theorem Zl2{ls:List Lot}{m:Mp}{L:Nat}(hL1:1<=L)(hL:L<=200)(hq:∀y∈ls,y.q.length<=L/\y.c.length<=L)(hs:∀y∈ls,y.Sz 50000)(hr:m.ratio.Sz L)(hpr:m.price.Sz L):
 (∀y∈(QQ ls m).1.lots,y.q.length<=4*L+42/\y.c.length<=4*L+42/\y.Sz 50000)/\(∀g∈(QQ ls m).1.gains,g.cost.length<=4*L+42/\g.proceeds.length<=4*L+42)/\(∀s∈(QQ ls m).1.steps,s.made.length<=4*L+42)/\
 (QQ ls m).1.lots.length<=1000/\(QQ ls m).1.gains.length<=1000/\(QQ ls m).1.steps.length<=2000:=by
 rcases XE ls m with ⟨e,he,h'⟩|⟨hl,hm,ho,h'⟩|⟨A,B,hM,h'⟩
 ·rw[h'];exact⟨fun y hy=>(by cases hy),fun y hy=>(by cases hy),fun y hy=>(by cases hy),Nat.zero_le _,Nat.zero_le _,Nat.zero_le _⟩
 ·rw[h'];refine⟨fun y hy=> ?_,fun y hy=>(by cases hy),fun y hy=>(by cases hy),hl.len,Nat.zero_le _,Nat.zero_le _⟩;have:=hq y hy
  exact⟨by omega,by omega,hs y hy⟩
 ·rw[h'];have hok:=Qz hM.ok m.inst;have hlo:(Qb ls m.inst).length<=1000:=Nat.le_trans (XI ls m.inst) hM.ok.len;have hK:=ZaS hok hM.mp hlo hL1 (fun y hy=>(hq y (List.mem_filter.1 hy).1).1) (fun y hy=>(hq y (List.mem_filter.1 hy).1).2) hr hpr;have hcz:=ZcW hM.mp.cause;have hoz:=ZcW hM.mp.other;refine⟨fun y hy=> ?_,fun g hg=> ?_,fun s hs'=> ?_,hM.len,?_,?_⟩
  ·have hy:y∈A++XZ m (Qe (Qb ls m.inst) m) (Qb ls m.inst)++B:=hy
   have hk:y∈A++B->y.q.length<=4*L+42/\y.c.length<=4*L+42/\y.Sz 50000:=by
    intro h;rw[<-hM.cut] at h;have h1:=Zno hK.m 0 ls (fun y hy=>⟨by have:=(hq y hy).1;omega,by have:=(hq y hy).2;omega⟩) y h;exact⟨h1.1,h1.2,ZgG hK.m (by omega) 0 ls (fun y hy=>⟨hs y hy,by have:=(hq y hy).2;omega⟩) y h⟩
   rcases List.mem_append.1 hy with hy|hy
   ·rcases List.mem_append.1 hy with hy|hy
    ·exact hk (List.mem_append.2 (.inl hy))
    ·obtain⟨i,z,hz,hn,rfl⟩:=ZaJ hy
     have hlt:=(List.getElem?_eq_some_iff.1 hz).1;have hq':=Qd (hK.n i)
     have hcost:(Qa ((Qe (Qb ls m.inst) m).mv i+if Xc (Qe (Qb ls m.inst) m).n i=0 then(Qe (Qb ls m.inst) m).rest (Qb ls m.inst).length else 0)).length<=4*L+40+2:=by
      refine Qd (L:=4*L+40+1) ?_;have h1:=hK.mv i;have h2:=hK.rest (Qb ls m.inst).length;rw[Nat.pow_succ];have h3:0<10^(4*L+40):=Nat.pow_pos (by omega);generalize 10^(4*L+40)=P at*
      split<;>omega
     exact⟨by show(Qa _).length<=_;omega,by show(Qa _).length<=_;omega,Ziw hK hcz hoz (hok z (List.mem_of_getElem? hz)) (by omega) (by omega)⟩
   ·exact hk (List.mem_append.2 (.inr hy))
  ·have hg:g∈Xz m (Qe (Qb ls m.inst) m) (Qb ls m.inst):=hg;unfold Xz at hg
   split at hg
   ·cases hg
   ·unfold QZ at hg;obtain⟨k,_,hk⟩:=List.mem_filterMap.1 hg
    have h1:=Qd (hK.f k);have h2:=Qd (hK.p k)
    cases ho:(Qb ls m.inst)[k]? with
    |none=>rw[ho] at hk;cases hk
    |some y=>
     rw[ho] at hk;simp only at hk
     split at hk
     ·cases hk
     ·injection hk with hk;rw[<-hk];exact⟨by show(Qa _).length<=_;omega,by show(Qa _).length<=_;omega⟩
  ·have hs':s∈Zba m (Qe (Qb ls m.inst) m) (Qb ls m.inst):=hs';unfold Zba Yk at hs';obtain⟨k,_,hk⟩:=List.mem_flatMap.1 hs'
   have h1:=Qd (hK.n k)
   cases ho:(Qb ls m.inst)[k]? with
   |none=>rw[ho] at hk;cases hk
   |some y=>
    rw[ho] at hk;simp only at hk
    unfold JC at hk;simp only at hk
    split at hk
    ·rw[Jo hk];show([]:List UInt8).length<=_;simp
    ·rcases List.mem_append.1 hk with hk|hk
     ·rw[Jo hk];show(Qa _).length<=_;omega
     ·rw[Jo hk];show([]:List UInt8).length<=_;simp
  ·show(Xz m (Qe (Qb ls m.inst) m) (Qb ls m.inst)).length<=1000
   unfold Xz
   split
   ·simp
   ·exact Nat.le_trans (ZdT m _ _ _) hlo
  ·show(Zba m (Qe (Qb ls m.inst) m) (Qb ls m.inst)).length<=2000
   unfold Zba Yk
   have h:∀(l:List Nat),(l.flatMap fun k=>match (Qb ls m.inst)[k]? with|some y=>JC m (Qe (Qb ls m.inst) m) k y|none=>[]).length<=2*l.length:=by
    intro l
    induction l with
    |nil=>simp
    |cons a l ih=>
     rw[List.flatMap_cons,List.length_append,List.length_cons]
     have:(match (Qb ls m.inst)[a]? with|some y=>JC m (Qe (Qb ls m.inst) m) a y|none=>[]).length<=2:=by
      cases(Qb ls m.inst)[a]? with
      |none=>simp
      |some z=>exact ZgI m _ a z
     omega
   have:=h (List.range (Qb ls m.inst).length)
   rw[List.length_range] at this;exact Nat.le_trans this (by omega)
end
end Go.Proofs.YtmamnnaiogidaaaGreatDoor
