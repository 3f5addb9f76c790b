/- . -/
import Derived.Test.YtpnncoinlopndaaGreatDoorQGMp7
import Derived.Test.YtpnncoinlopndaaGreatDoorQGMp46
set_option maxRecDepth 100000
set_option maxHeartbeats 8000000
namespace Go.Proofs.YtpnncoinlopndaaGreatDoor
open Go.Lib renaming hid→jq
open Go.RowKit Go.Shelf
section
attribute [local go_sem ↓] Go.wp_at_zero Go.wp_at_succ VT
theorem Jz(m:Mp)(ms:List Int)(k:Nat)(l:List Lot):(Qn m ms k l).length<=l.length:=by
 induction l generalizing k with
 |nil=>simp[Qn]
 |cons a l ih=>
  have h1:=ih (k+1);have h2:=ih k;simp only[Qn]
  split
  ·split<;>simp<;>omega
  ·simp;omega
theorem Zkp{W:World}{base g:Nat}{u:Value}{xs:List Lot}(h:Own L7 7 54 W base u xs)(hg:u.ownBlock=some g):base<=g:=by
 obtain⟨A,c,rfl,_,_,_,h5⟩:=h.form
 exact(h5 g hg).2.1
theorem Below.set5{W w:World}{n:Nat}{u:Value}(h:Below n W w):Below n W (w.setCell ⟨n,5,none⟩ u):=h.setCell (Nat.le_refl _) _
theorem Zij{W:World}{q:Nat}{y:Lot}(h:BlkB W q (Xk y) 54):QU W W.1.size (some ⟨q,0,none⟩) 1 [y]:=by
 refine⟨rfl,fun _=>⟨q,0,rfl,h.lt,fun j z hj k u hk=> ?_⟩⟩
 cases j with
 |zero=>
  simp only[List.getElem?_cons_zero,Option.some.injEq] at hj;subst hj;rw[Nat.zero_mul,Nat.zero_add];exact h.cell k (by rw[<-Jy];simpa using hk)
 |succ j=>simp at hj
theorem Zkq(v:PlV)(x:Plan)(old:List Lot)(pn pm pf pp n₀:Nat)(A:Option Addr)(n c:Nat)(ls:List Lot)(w:World)(hp:Env w)(hM:PlM w n₀ v x old pn pm pf pp)(hn₀:n₀<=w.1.size)(hz:PlSz 20000 x)
 (hs:QU w w.1.size A n ls) (hl:∀y∈ls,y.Sz 50000) (hn:n<=1000) (ho:old.length=ls.countP (fun z=>decide (z.inst=v.m.inst))):
 Calls Tryz.prog 29 #[.agg (plA v).toArray,.slice A n c] w (RetOwn L7 7 54 w.1.size w (Qn v.m x.m 0 ls)):=by
 rw[YA];have HB:=jq (show BlkB (w.alloc (.cells (Xc v) 60)) w.1.size (Xc v) 60 from heap_alloc_new w _);have HBW:=jq ((Below.refl w.1.size w).alloc (Nat.le_refl _) (.cells (Xc v) 60));have HSZ:=jq (show(w.alloc (.cells (Xc v) 60)).heap.size=w.1.size+1 by simp);have hp1:=jq (hp.here HBW.out);have HM:=jq (hM.below (HBW.out.mono hn₀));have HS:=jq (hs.below HBW.out);have HZ:=jq hz;have HL:=jq hl;have HO:=jq ho;have E2:=jq (show(Xc v)[2]?=some (.string ⟨v.m.inst.toArray⟩) from rfl);have E10:=jq (show(Xc v)[10]?=some (.bool v.m.keep) from rfl);have E16:=jq (show(Xc v)[16]?=some (.slice (some ⟨pm,0,none⟩) v.on v.on) by rw[<-hM.em];rfl);have HPO:=jq (show RetOwn L7 7 54 w.1.size w (Qn v.m x.m 0 ls)=fun e w'=>∃A c,e=.returned (.slice A (Qn v.m x.m 0 ls).length c)/\Own L7 7 54 w' w.1.size (.slice A (Qn v.m x.m 0 ls).length c) (Qn v.m x.m 0 ls)/\Below w.1.size w w' from rfl);generalize RetOwn L7 7 54 w.1.size w (Qn v.m x.m 0 ls)=post at*;generalize Xc v=pb at*;have HLE:=jq hs.1;have HNN:=jq hn₀;clear hp hM hz hs hl ho hn₀;go_enter Tryz.func29,Tryz.ntmps29
 go_wp2
 generalize w.alloc (.cells pb 60)=W1 at*
 go_loopw [5,6,8,11] (fun s a _ j wr=>∃(k at_:Nat) (A1:Option Addr) (c1:Nat),k<=n/\j=.int .i64 k/\a=.int .i64 at_/\s=.slice A1 (Qn v.m x.m 0 (ls.take k)).length c1/\Hid (v.m.keep=true->at_=(ls.take k).countP (fun z=>decide (z.inst=v.m.inst)))/\Hid (Own L7 7 54 wr W1.1.size (.slice A1 (Qn v.m x.m 0 (ls.take k)).length c1) (Qn v.m x.m 0 (ls.take k)))/\Hid (Below W1.1.size W1 wr)) (fun _ _ _ j _=>n-(intOf j).toNat)
 case atStart=>exact⟨0,0,none,0,Nat.zero_le _,rfl,rfl,rfl,(show _->_ from fun _=>rfl),Own.nil,Below.refl _ _⟩
 case round=>
  obtain⟨k,at_,A1,c1,hk,rfl,rfl,rfl,HAT,HOW,HBR⟩:=hrel
  by_cases hlt:k<n
  ·have hwl:w.1.size<=W1.1.size:=by have:=HSZ.out;omega
   obtain⟨b,off,y,rfl,hb,hy,d0,d1,d2,d3,d4,d5,d6⟩:=(HS.out.below (HBR.out.mono hwl)).lot7 hlt
   have HTK:=jq (show ls.take (k+1)=ls.take k++[y] by
    obtain⟨h1,h2⟩:=List.getElem?_eq_some_iff.1 hy
    rw[List.take_succ_eq_append_getElem h1,h2])
   have HKS:=jq (Zdg v.m x.m 0 (ls.take k) y);have HYI:=jq hy;clear hy;have HBP:=jq (show BlkB wr w.1.size pb 60 from(HBR.out.block _ HB.out.lt).trans HB.out);have c2:=HBP.out.cell 2 E2.out;have c10:=HBP.out.cell 10 E10.out;have hpl:w.1.size<wr.1.size:=HBP.out.lt;have hpn:w.1.size≠wr.1.size:=by omega
   have HA1:=jq (HBR.out.alloc HBR.out.size (.cells #[.string ⟨y.id.toArray⟩,.string ⟨y.inst.toArray⟩,.int .i64 y.acq,.int .i64 y.opn,.string ⟨y.q.toArray⟩,.string ⟨y.c.toArray⟩,.string ⟨y.u.toArray⟩] 54));have HO1:=jq (HOW.out.alloc (.cells #[.string ⟨y.id.toArray⟩,.string ⟨y.inst.toArray⟩,.int .i64 y.acq,.int .i64 y.opn,.string ⟨y.q.toArray⟩,.string ⟨y.c.toArray⟩,.string ⟨y.u.toArray⟩] 54));rw[<-HTK.out] at HKS
   by_cases hi:y.inst=v.m.inst
   ·have hi2:(y.inst==v.m.inst)=true:=by simp[hi]
    cases hkp:v.m.keep with
    |false=>
     rw[hkp] at c10;have HK2:=jq (show Qn v.m x.m 0 (ls.take (k+1))=Qn v.m x.m 0 (ls.take k) by rw[HKS.out];simp[Qn,hi,hkp]);clear hi
     go_wp2
     go_roundw
     case rel=>exact⟨k+1,at_,A1,c1,by omega,by go_num,rfl,by rw[HK2.out],(show _->_ from fun h=>by first|(rw[hkp] at h;cases h)|cases h),(show Own _ _ _ _ _ _ _ by rw[HK2.out];exact HO1.out),HA1⟩
     case measure=>simp[intOf];omega
    |true=>
     rw[hkp] at c10;obtain⟨z,hzd⟩:∃z:Lot,z={y with c:=Qa (val y.c-x.m.getD at_ 0)}:=⟨_,rfl⟩
     have hatk:at_=(ls.take k).countP (fun z=>decide (z.inst=v.m.inst)):=HAT.out hkp;have HK2:=jq (show Qn v.m x.m 0 (ls.take (k+1))=Qn v.m x.m 0 (ls.take k)++[z] by rw[HKS.out,hzd,hatk];simp[Qn,hi,hkp]);have HCP:=jq (show(ls.take (k+1)).countP (fun z=>decide (z.inst=v.m.inst))=at_+1 by rw[HTK.out,List.countP_append,hatk];simp[hi])
     have hlo:at_<v.on:=by
      have h1:(ls.take (k+1)).countP (fun z=>decide (z.inst=v.m.inst))<=ls.countP (fun z=>decide (z.inst=v.m.inst)):=(List.take_sublist _ _).countP_le;rw[HCP.out,<-HO.out,<-HM.out.len] at h1;omega
     have hak:at_<=k:=by rw[hatk];exact Nat.le_trans List.countP_le_length (by rw[List.length_take];omega)
     clear hi hatk;have i1:(0:Int)<=(at_:Int):=by omega
     have i2:(at_:Int)<(v.on:Int):=by omega
     have HZ1:=jq (show Xk z=#[.string ⟨y.id.toArray⟩,.string ⟨y.inst.toArray⟩,.int .i64 y.acq,.int .i64 y.opn,.string ⟨y.q.toArray⟩,.string ⟨z.c.toArray⟩,.string ⟨y.u.toArray⟩] by rw[hzd];rfl);have HSB:=jq (fun W (hp:Pow W)=>Zbj y.c (Qa (x.m.getD at_ 0)) W hp (by have:=(HL.out y (List.mem_of_getElem? HYI.out)).c;omega) (by have:=HZ.out.m at_;omega));rw[Qc,show Qa (val y.c-x.m.getD at_ 0)=z.c by rw[hzd]] at HSB;have HPM:=jq (show ∀X,PlM X n₀ v x old pn pm pf pp->X.cell? ⟨pm,at_,none⟩=some (.string ⟨(Qa (x.m.getD at_ 0)).toArray⟩) from fun X hm=>hm.bm.cell at_ (by rw[QQ _ _ _ _ hlo,if_pos hlo]));clear hzd;generalize Qa (x.m.getD at_ 0)=tm at*
     have HSS:=jq (show ∀X,Below wr.1.size wr X->X.cell? ⟨w.1.size,16,none⟩=some (.slice (some ⟨pm,0,none⟩) v.on v.on)/\X.cell? ⟨pm,at_,none⟩=some (.string ⟨tm.toArray⟩) from fun X h=>
      ⟨(HBP.out.here h).cell 16 E16.out,HPM.out X (HM.out.below ((HBR.out.trans (h.mono HBR.out.size)).mono (Nat.le_trans HNN.out hwl)))⟩)
     unfold S at HSB
     go_wp2
     have HYB:=jq (show BlkB (wr.alloc (.cells #[.string ⟨y.id.toArray⟩,.string ⟨y.inst.toArray⟩,.int .i64 y.acq,.int .i64 y.opn,.string ⟨y.q.toArray⟩,.string ⟨y.c.toArray⟩,.string ⟨y.u.toArray⟩] 54)) wr.1.size #[.string ⟨y.id.toArray⟩,.string ⟨y.inst.toArray⟩,.int .i64 y.acq,.int .i64 y.opn,.string ⟨y.q.toArray⟩,.string ⟨y.c.toArray⟩,.string ⟨y.u.toArray⟩] 54 from heap_alloc_new wr _);have HBY:=jq ((Below.refl wr.1.size wr).alloc (Nat.le_refl _) (.cells #[.string ⟨y.id.toArray⟩,.string ⟨y.inst.toArray⟩,.int .i64 y.acq,.int .i64 y.opn,.string ⟨y.q.toArray⟩,.string ⟨y.c.toArray⟩,.string ⟨y.u.toArray⟩] 54));have HSY:=jq (show(wr.alloc (.cells #[.string ⟨y.id.toArray⟩,.string ⟨y.inst.toArray⟩,.int .i64 y.acq,.int .i64 y.opn,.string ⟨y.q.toArray⟩,.string ⟨y.c.toArray⟩,.string ⟨y.u.toArray⟩] 54)).heap.size=wr.1.size+1 by simp);generalize wr.alloc _=Wy at*;clear d0 d1 d2 d3 d4 d5 d6 c2 c10;obtain⟨y1,y2⟩:=HSS.out _ HBY.out
     have y5:=HYB.out.cell 5 rfl;have HPW:=jq ((hp1.out.here HA1.out.drew).pow)
     go_cut [] (fun wc=>Hid (BlkB wc wr.1.size (Xk z) 54)/\Hid (Below wr.1.size wr wc)/\Hid (Own L7 7 54 wc W1.1.size (.slice A1 (Qn v.m x.m 0 (ls.take k)).length c1) (Qn v.m x.m 0 (ls.take k))))
     case first=>
      go_region_with
       (go_at_call 67;(refine(HSB.out _ HPW.out).mono ?_);rintro e w1 ⟨rfl,hb1⟩;unfold S;have hg1:Below wr.1.size wr w1:=HBY.out.drew.trans (hb1.mono HBY.out.size);have hq1:BlkB w1 wr.1.size #[.string ⟨y.id.toArray⟩,.string ⟨y.inst.toArray⟩,.int .i64 y.acq,.int .i64 y.opn,.string ⟨y.q.toArray⟩,.string ⟨y.c.toArray⟩,.string ⟨y.u.toArray⟩] 54:=BlkB.here (w:=Wy.drew) HYB.out hb1;have z5:=hq1.cell 5 rfl;have f5:=hq1.frozen 5;have k4:=(fun(u:Value)=>HSS.out _ (Below.set5 (u:=u) hg1)))
      all_goals
       go_wp2_with fail
       go_meet
       exact⟨(by
        show BlkB _ _ _ _
        rw[HZ1.out];have h:=hq1.set 5 (.string ⟨z.c.toArray⟩);simpa only[List.setIfInBounds_toArray,List.set_cons_zero,List.set_cons_succ] using h),Below.set5 hg1,HOW.out.below (Below.set5 hg1)⟩
     case rest=>
      obtain⟨HB5,HW5,HO5⟩:=hcut
      have hq5:BlkB wc wr.1.size #[.string ⟨z.id.toArray⟩,.string ⟨z.inst.toArray⟩,.int .i64 z.acq,.int .i64 z.opn,.string ⟨z.q.toArray⟩,.string ⟨z.c.toArray⟩,.string ⟨z.u.toArray⟩] 54:=HB5.out;have c0:=hq5.cell 0 rfl;have c1_:=hq5.cell 1 rfl;have c2:=hq5.cell 2 rfl;have c3:=hq5.cell 3 rfl;have c4:=hq5.cell 4 rfl;have c5:=hq5.cell 5 rfl;have c6:=hq5.cell 6 rfl;clear HSB HPM HSS y1 y2 y5 HYB HBY HSY HPW hq5;have HA1:=jq (HBR.out.trans (HW5.out.mono HBR.out.size));have HA2:=jq (HA1.out.alloc HA1.out.size (.cells #[.string ⟨z.id.toArray⟩,.string ⟨z.inst.toArray⟩,.int .i64 z.acq,.int .i64 z.opn,.string ⟨z.q.toArray⟩,.string ⟨z.c.toArray⟩,.string ⟨z.u.toArray⟩] 54));have HO2:=jq (HO5.out.alloc (.cells #[.string ⟨z.id.toArray⟩,.string ⟨z.inst.toArray⟩,.int .i64 z.acq,.int .i64 z.opn,.string ⟨z.q.toArray⟩,.string ⟨z.c.toArray⟩,.string ⟨z.u.toArray⟩] 54));have HL1:=jq (Zij (y:=z) (show BlkB (wc.alloc (.cells #[.string ⟨z.id.toArray⟩,.string ⟨z.inst.toArray⟩,.int .i64 z.acq,.int .i64 z.opn,.string ⟨z.q.toArray⟩,.string ⟨z.c.toArray⟩,.string ⟨z.u.toArray⟩] 54)) wc.1.size (Xk z) 54 from heap_alloc_new wc _));have HLK:=jq (show(Qn v.m x.m 0 (ls.take k)).length+1<=100000000000 from Nat.le_trans (Nat.succ_le_succ (Jz v.m x.m 0 (ls.take k))) (by rw[List.length_take];omega));generalize hkl:Qn v.m x.m 0 (ls.take k)=kl at*;have HKL:=jq hkl;clear hkl
      go_wp2_with (at_builtin;refine Qt _ rfl (.tmp 36) (.tmp 38) _ rfl Xg Ql Xh (base:=W1.1.size) (.slice A1 _ c1) kl rfl HO2.out _ _ 1 1 [z] rfl HL1.out HLK.out HA2.out.size ?_
                   intro A2 c2 w2 ho2 hg2 _)
      go_roundw
      case rel=>
       have hl:(Qn v.m x.m 0 (ls.take (k+1))).length=kl.length+1:=by rw[HK2.out];simp
       exact⟨k+1,at_+1,A2,c2,by omega,by go_num,by go_num,by rw[hl],(show _->_ from fun h=>by rw[HCP.out]),(show Own _ _ _ _ _ _ _ by rw[hl,HK2.out];exact ho2),Qm HA2.out hg2 HA2.out.size (fun g hg=>Zkp HO2.out hg)⟩
      case measure=>simp[intOf];omega
   ·have hi2:(y.inst==v.m.inst)=false:=by simp[hi]
    have HK2:=jq (show Qn v.m x.m 0 (ls.take (k+1))=Qn v.m x.m 0 (ls.take k)++[y] by rw[HKS.out];simp[Qn,hi]);have HCP:=jq (show(ls.take (k+1)).countP (fun z=>decide (z.inst=v.m.inst))=(ls.take k).countP (fun z=>decide (z.inst=v.m.inst)) by rw[HTK.out,List.countP_append];simp[hi]);clear hi;have HA2:=jq (HA1.out.alloc HA1.out.size (.cells #[.string ⟨y.id.toArray⟩,.string ⟨y.inst.toArray⟩,.int .i64 y.acq,.int .i64 y.opn,.string ⟨y.q.toArray⟩,.string ⟨y.c.toArray⟩,.string ⟨y.u.toArray⟩] 54));have HO2:=jq (HO1.out.alloc (.cells #[.string ⟨y.id.toArray⟩,.string ⟨y.inst.toArray⟩,.int .i64 y.acq,.int .i64 y.opn,.string ⟨y.q.toArray⟩,.string ⟨y.c.toArray⟩,.string ⟨y.u.toArray⟩] 54));have HL1:=jq (Zij (y:=y) (show BlkB ((wr.alloc (.cells #[.string ⟨y.id.toArray⟩,.string ⟨y.inst.toArray⟩,.int .i64 y.acq,.int .i64 y.opn,.string ⟨y.q.toArray⟩,.string ⟨y.c.toArray⟩,.string ⟨y.u.toArray⟩] 54)).alloc (.cells #[.string ⟨y.id.toArray⟩,.string ⟨y.inst.toArray⟩,.int .i64 y.acq,.int .i64 y.opn,.string ⟨y.q.toArray⟩,.string ⟨y.c.toArray⟩,.string ⟨y.u.toArray⟩] 54)) (wr.alloc (.cells #[.string ⟨y.id.toArray⟩,.string ⟨y.inst.toArray⟩,.int .i64 y.acq,.int .i64 y.opn,.string ⟨y.q.toArray⟩,.string ⟨y.c.toArray⟩,.string ⟨y.u.toArray⟩] 54)).heap.size (Xk y) 54 from heap_alloc_new (wr.alloc (.cells #[.string ⟨y.id.toArray⟩,.string ⟨y.inst.toArray⟩,.int .i64 y.acq,.int .i64 y.opn,.string ⟨y.q.toArray⟩,.string ⟨y.c.toArray⟩,.string ⟨y.u.toArray⟩] 54)) _));rw[show(wr.alloc (.cells #[.string ⟨y.id.toArray⟩,.string ⟨y.inst.toArray⟩,.int .i64 y.acq,.int .i64 y.opn,.string ⟨y.q.toArray⟩,.string ⟨y.c.toArray⟩,.string ⟨y.u.toArray⟩] 54)).heap.size=wr.1.size+1 by simp] at HL1;have HLK:=jq (show(Qn v.m x.m 0 (ls.take k)).length+1<=100000000000 from Nat.le_trans (Nat.succ_le_succ (Jz v.m x.m 0 (ls.take k))) (by rw[List.length_take];omega));generalize hkl:Qn v.m x.m 0 (ls.take k)=kl at*;have HKL:=jq hkl;clear hkl
    go_wp2_with (at_builtin;refine Qt _ rfl (.tmp 36) (.tmp 38) _ rfl Xg Ql Xh (base:=W1.1.size) (.slice A1 _ c1) kl rfl HO2.out _ _ 1 1 [y] rfl HL1.out HLK.out HA2.out.size ?_
                 intro A2 c2 w2 ho2 hg2 _)
    go_roundw
    case rel=>
     have hl:(Qn v.m x.m 0 (ls.take (k+1))).length=kl.length+1:=by rw[HK2.out];simp
     exact⟨k+1,at_,A2,c2,by omega,by go_num,rfl,by rw[hl],(show _->_ from fun h=>by rw[HCP.out];exact HAT.out h),(show Own _ _ _ _ _ _ _ by rw[hl,HK2.out];exact ho2),Qm HA2.out hg2 HA2.out.size (fun g hg=>Zkp HO2.out hg)⟩
    case measure=>simp[intOf];omega
  ·obtain rfl:k=n:=by omega
   have HTA:=jq (show ls.take k=ls from List.take_of_length_le (by rw[HLE.out];exact Nat.le_refl _))
   go_wp2
   rw[HPO.out];have ho:=HOW.out;have hwl:w.1.size<=W1.1.size:=by have:=HSZ.out;omega
   rw[HTA.out] at ho ⊢;refine⟨A1,c1,?_,ho.base_ hwl,HBW.out.trans (HBR.out.mono hwl)⟩;rfl
end
section
theorem ZbD{l a:List Lot}{l':List Lot}(z:Lot)(h:Xp l a=some l'):Xp l (a++[z])=if(Yt l' z).2≠0 then none else some (Yt l' z).1:=by
 induction a generalizing l with
 |nil=>
  have e:l=l':=by simpa[Xp] using h
  subst e;simp only[List.nil_append,Xp]
 |cons y a ih=>
  rw[List.cons_append];unfold Xp at h ⊢
  split at h
  ·cases h
  ·rename_i h0
   rw[if_neg h0];exact ih h
theorem Ze6{l a:List Lot}(b:List Lot)(h:Xp l a=none):Xp l (a++b)=none:=by
 induction a generalizing l with
 |nil=>simp[Xp] at h
 |cons y a ih=>
  rw[List.cons_append];unfold Xp at h ⊢
  split at h
  ·rename_i h0;rw[if_pos h0]
  ·rename_i h0;rw[if_neg h0];exact ih h
theorem Zkr{l:List Lot}{z y:Lot}(h:y∈XG l z):y∈l\/y=z:=by
 unfold XG at h
 rcases List.mem_append.1 h with h|h
 ·exact .inl (List.mem_of_mem_take h)
 ·rcases List.mem_cons.1 h with h|h
  ·exact .inr h
  ·exact .inl (List.mem_of_mem_drop h)
structure OpA (kept pre l:List Lot):Prop where
 o:Xp kept pre=some l
 len:l.length<=1000
 sz:∀y∈l,y.Sz 50000
theorem OpA.next{kept pre l:List Lot}{z:Lot}(h:OpA kept pre l)(hz:z.Sz 50000)(h0:(Yt l z).2=0):OpA kept (pre++[z]) (Yt l z).1:=by
 have e:Yt l z=(XG l z,0)/\l.length<1000:=by
  unfold Yt at h0 ⊢
  split at h0
  ·cases h0
  ·rename_i h1
   rw[if_neg h1]
   split at h0
   ·rename_i h2;exact absurd h0 h2
   ·rename_i h2
    rw[if_neg h2]
    split at h0
    ·cases h0
    ·rename_i h3
     rw[if_neg h3]
     split at h0
     ·cases h0
     ·rename_i h4
      rw[if_neg h4];exact⟨rfl,by omega⟩
 refine⟨by rw[ZbD z h.o,if_neg (by rw[h0];exact fun h=>h rfl)],?_,?_⟩
 ·rw[e.1]
  show(XG l z).length<=1000
  unfold XG;have:=Zf5 l z.inst
  simp
  omega
 ·intro y hy;rw[e.1] at hy
  rcases Zkr hy with hy|rfl
  ·exact h.sz y hy
  ·exact hz
theorem PlK.sz{K:Nat}{x:Plan}(h:PlK K x):PlSz2 (K+1) x:=
 ⟨⟨fun i=>Qd (h.n i),fun i=>Qd (h.m i),fun i=>Qd (h.f i),fun i=>Qd (h.p i)⟩,fun i=>Qd (h.mv i),fun i=>Qd (h.rest i)⟩
theorem Zks{d:Int}(h:XP d=true): -9223372036854775808<=d/\d<=9223372036854775807:=by
 unfold XP at h;simp at h;omega
theorem ZbE{s:List UInt8}(h:QG s=true):s.length<=16:=by
 unfold QG at h;simp at h;omega
theorem Zik{m:Mp}{x:Plan}{len i K:Nat}{y:Lot}(h:PlK K x)(hc:m.cause.length<=16)(ho:m.other.length<=16)(hy:y.Ok)(hK:K<=1000)(hi:i<=1000000):(ZcN m x len i y).Sz 50000:=by
 have a:=Zks hy.acq;have b:=Zks hy.opn;have hcn:=JM x.n i;have hd:=YY (m:=QD x.n i+1) (L:=7) (by omega);have hq:=Qd (h.n i)
 have hcost:(Qa (x.mv i+if QD x.n i=0 then x.rest len else 0)).length<=K+2:=by
  refine Qd (L:=K+1) ?_;have h1:=h.mv i;have h2:=h.rest len;rw[Nat.pow_succ];have h3:0<10^K:=Nat.pow_pos (by omega);generalize 10^K=P at*
  split<;>omega
 refine⟨?_,?_,?_,?_,?_,a.1,a.2,b.1,b.2⟩
 ·show(QO m.cause (QD x.n i+1)).length<=_
  unfold QO;rw[List.length_append,List.length_cons];omega
 ·show m.other.length<=_;omega
 ·show(Qa (x.n.getD i 0)).length<=_;omega
 ·show(Qa (x.mv i+if QD x.n i=0 then x.rest len else 0)).length<=_;omega
 ·show(Qa (x.n.getD i 0)).length<=_;omega
theorem Zgd{m:Mp}{ms:List Int}{K:Nat}(hm:∀i,(ms.getD i 0).natAbs<10^K)(hK:K<=1000)(k:Nat)(l:List Lot)(h:∀y∈l,y.Sz 50000/\y.c.length<=K):∀z∈Qn m ms k l,z.Sz 50000:=by
 induction l generalizing k with
 |nil=>intro z hz;simp[Qn] at hz
 |cons a l ih=>
  intro z hz;have ha:=h a (by simp);have ht:=fun k=>ih k (fun y hy=>h y (by simp[hy]))
  unfold Qn at hz
  split at hz
  ·split at hz
   ·rcases List.mem_cons.1 hz with rfl|hz
    ·have hc:=Qd (Vz (Qz ha.2) (hm k));exact⟨ha.1.id,ha.1.inst,ha.1.q,by show(Qa _).length<=_;omega,ha.1.u,ha.1.a1,ha.1.a2,ha.1.o1,ha.1.o2⟩
    ·exact ht _ z hz
   ·exact ht _ z hz
  ·rcases List.mem_cons.1 hz with rfl|hz
   ·exact ha.1
   ·exact ht _ z hz
theorem Zhp{m:Mp}{x:Plan}{old:List Lot}{z:Nat×Lot}(h:z∈QR m x old):∃y,old[z.1]?=some y/\z.2=ZcN m x old.length z.1 y:=by
 unfold QR QY at h;obtain⟨i,_,hi⟩:=List.mem_filterMap.1 h
 cases ho:old[i]? with
 |none=>rw[ho] at hi;cases hi
 |some y=>
  rw[ho] at hi
  by_cases h0:x.n.getD i 0=0
  ·simp only[if_pos h0] at hi;cases hi
  ·simp only[if_neg h0,Option.some.injEq] at hi;subst hi;exact⟨y,ho,rfl⟩
theorem Zkt{ls:List Lot}{m:Mp}(h:Xl ls≠0\/JE m≠0):Yz ls m=(Res.none,1):=by unfold Yz;rw[if_pos h]
theorem Zi2{ls:List Lot}{m:Mp}(h1:Xl ls=0)(h2:JE m=0)(ho:Qb ls m.inst=[]):Yz ls m=(⟨ls,[],[]⟩,0):=by
 unfold Yz;rw[if_neg (show ¬(Xl ls≠0\/JE m≠0) from fun h=>h.elim (fun h=>h h1) (fun h=>h h2))];simp only;rw[if_pos ho]
theorem Zhq{ls:List Lot}{m:Mp}(h1:Xl ls=0)(h2:JE m=0)(ho:Qb ls m.inst≠[]){z:Nat×Lot}(hz:z∈QR m (Qe (Qb ls m.inst) m) (Qb ls m.inst))(hid:z.2.id∈ls.map (·.id)):Yz ls m=(Res.none,5):=by
 unfold Yz;rw[if_neg (show ¬(Xl ls≠0\/JE m≠0) from fun h=>h.elim (fun h=>h h1) (fun h=>h h2))];simp only;rw[if_neg ho,if_pos];rw[List.any_eq_true];exact⟨z.2,List.mem_map.2 ⟨z,hz,rfl⟩,by simpa using hid⟩
theorem ZlS{ls:List Lot}{m:Mp}(h1:Xl ls=0)(h2:JE m=0)(ho:Qb ls m.inst≠[])(hz:∀z∈QR m (Qe (Qb ls m.inst) m) (Qb ls m.inst),z.2.id ∉ ls.map (·.id)):
 Yz ls m=match Xp (Qn m (Qe (Qb ls m.inst) m).m 0 ls) ((QR m (Qe (Qb ls m.inst) m) (Qb ls m.inst)).map (·.2)) with
  |some l=>(⟨l,Xq m (Qe (Qb ls m.inst) m) (Qb ls m.inst),Yh m (Qe (Qb ls m.inst) m) (Qb ls m.inst)⟩,0)
  |none=>(Res.none,4):=by
 unfold Yz;rw[if_neg (show ¬(Xl ls≠0\/JE m≠0) from fun h=>h.elim (fun h=>h h1) (fun h=>h h2))];simp only;rw[if_neg ho,if_neg]
 ·rfl
 ·rw[List.any_eq_true];rintro⟨w,hw,hin⟩;obtain⟨z,hz',rfl⟩:=List.mem_map.1 hw
  exact hz z hz' (by simpa using hin)
end
section
def mk0(m:Mp)(x:Plan)(i:Nat)(y:Lot):Lot:=
 {id:=QO m.cause (QD x.n i+1),inst:=m.other,acq:=y.acq,opn:=y.opn,q:=Qa (x.n.getD i 0),c:=Qa (x.mv i),u:=Qa (x.n.getD i 0)}
def Yl(m:Mp)(x:Plan)(old:List Lot)(i:Nat):List Lot:=
 (List.range i).filterMap fun k=>match old[k]? with|some y=>if x.n.getD k 0=0 then none else some (mk0 m x k y)|none=>none
theorem Zck(m:Mp)(x:Plan)(old:List Lot)(i:Nat):Yl m x old (i+1)=Yl m x old i++(match old[i]? with|some y=>if x.n.getD i 0=0 then[] else[mk0 m x i y]|none=>[]):=by
 unfold Yl;rw[List.range_succ,List.filterMap_append]
 congr 1
 simp only[List.filterMap_cons,List.filterMap_nil]
 cases old[i]? with
 |none=>rfl
 |some y=>
  by_cases h:x.n.getD i 0=0
  ·simp only[if_pos h]
  ·simp only[if_neg h]
theorem ZbO(m:Mp){x:Plan}{old:List Lot}(hn:x.n.length=old.length)(i:Nat)(hi:i<=old.length):(Yl m x old i).length=QD x.n i:=by
 induction i with
 |zero=>simp[Yl,QD]
 |succ i ih=>
  rw[Zck,List.length_append,ih (by omega),Jw _ _ (by omega),List.getElem?_eq_getElem (by omega)]
  by_cases h:x.n.getD i 0=0
  ·simp only[if_pos h];rfl
  ·simp only[if_neg h];rfl
def Zgz(r:Int):List Lot->List Lot
 |[]=>[]
 |z::l=>{z with c:=Qa (val z.c+r)}::l
theorem Zjn(r:Int)(l:List Lot)(z:Lot):Zgz r (l++[z])=if l=[] then[{z with c:=Qa (val z.c+r)}] else Zgz r l++[z]:=by
 cases l with
 |nil=>rfl
 |cons a l=>rw[if_neg (by simp)];rfl
theorem ZgA(r:Int)(l:List Lot):(Zgz r l).length=l.length:=by cases l<;>rfl
theorem ZkW(r:Int)(l:List Lot):(Zgz r l).map (·.id)=l.map (·.id):=by cases l<;>rfl
theorem Zl9(m:Mp){x:Plan}{old:List Lot}(hn:x.n.length=old.length)(i:Nat)(hi:i<=old.length):Zgz (x.rest old.length) (Yl m x old i)=(QY m x old i).map (·.2):=by
 induction i with
 |zero=>simp[Yl,QY,Zgz]
 |succ i ih=>
  have hl:=ZbO m hn i (by omega);rw[Zck,Yy,List.map_append,List.getElem?_eq_getElem (by omega),<-ih (by omega)]
  by_cases h:x.n.getD i 0=0
  ·simp only[if_pos h,List.append_nil,List.map_nil]
  ·simp only[if_neg h,List.map_cons,List.map_nil];rw[Zjn]
   by_cases h0:Yl m x old i=[]
   ·rw[if_pos h0,h0];have hc:QD x.n i=0:=by rw[<-hl,h0];rfl
    show _=[]++_
    rw[List.nil_append];unfold ZcN mk0;simp only[hc,if_true,Qc]
   ·rw[if_neg h0];have hc:QD x.n i≠0:=by rw[<-hl];exact fun e=>h0 (List.length_eq_zero_iff.1 e)
    unfold ZcN mk0;simp only[if_neg hc,Int.add_zero]
theorem ZdF(m:Mp){x:Plan}{old:List Lot}(hn:x.n.length=old.length):Zgz (x.rest old.length) (Yl m x old old.length)=QZ m x old:=Zl9 m hn old.length (Nat.le_refl _)
def VO(ls:List Lot)(m:Mp):Res×Int:=
 if Xl ls≠0\/JE m≠0 then(Res.none,1)
 else
  let old:=Qb ls m.inst
  let x:=Qe old m
  if((Yl m x old old.length).any fun z=>decide (z.id∈ls.map (·.id)))=true then(Res.none,5)
  else if 1000<(Qn m x.m 0 ls).length+(QZ m x old).length then(Res.none,4)
  else(⟨(QZ m x old).foldl XG (Qn m x.m 0 ls),Xq m x old,Yh m x old⟩,0)
theorem ZkX(i:List UInt8)(zs:List Lot):∀(A B:List Lot),CutAt i A B->(∀z∈zs,z.inst=i)->zs.foldl XG (A++B)=A++zs++B:=by
 induction zs with
 |nil=>intro A B _ _;simp
 |cons z zs ih=>
  intro A B hc hz;have hi:=hz z (by simp);subst hi;rw[List.foldl_cons,hc.put];have e:A++z::B=(A++[z])++B:=by simp
  rw[e,ih (A++[z]) B hc.next (fun y hy=>hz y (by simp[hy]))];simp
theorem ZhH(m:Mp)(ms:List Int)(k:Nat)(l:List Lot)(h:Qb l m.inst=[]):Qn m ms k l=l:=by
 induction l generalizing k with
 |nil=>rfl
 |cons a l ih=>
  unfold Qb at h ih;rw[List.filter_cons] at h
  by_cases ha:(a.inst==m.inst)=true
  ·rw[if_pos ha] at h;cases h
  ·rw[if_neg ha] at h;have ha':¬a.inst=m.inst:=by simpa using ha
   unfold Qn;rw[if_neg ha',ih k h]
theorem Zma{l:List Lot}{l':List Lot}(h:l.map (·.id)=l'.map (·.id))(p:List UInt8->Bool):l.any (fun z=>p z.id)=l'.any (fun z=>p z.id):=by
 have e:=congrArg (fun k=>k.any p) h;simpa[List.any_map,Function.comp_def] using e
theorem Zmb(ls:List Lot)(m:Mp):VO ls m=Yz ls m:=by
 unfold VO Yz
 by_cases h1:Xl ls≠0\/JE m≠0
 ·rw[if_pos h1,if_pos h1]
 ·rw[if_neg h1,if_neg h1];have hl:LotsOk ls:=(VQ ls).1 (Classical.not_not.1 (fun h=>h1 (.inl h)));have hm:m.Ok:=(Za1 m).1 (Classical.not_not.1 (fun h=>h1 (.inr h)));simp only;have hma:=ZdF m (Xn (Qb ls m.inst) m).1
  have hid:((Yl m (Qe (Qb ls m.inst) m) (Qb ls m.inst) (Qb ls m.inst).length).any fun z=>decide (z.id∈ls.map (·.id)))=((QZ m (Qe (Qb ls m.inst) m) (Qb ls m.inst)).any fun z=>decide (z.id∈ls.map (·.id))):=by
   rw[<-hma];exact Zma (ZkW _ _).symm (fun i=>decide (i∈ls.map (·.id)))
  rw[hid]
  by_cases h2:Qb ls m.inst=[]
  ·have hmd:QZ m (Qe (Qb ls m.inst) m) (Qb ls m.inst)=[]:=by rw[h2];rfl
   rw[if_pos h2,hmd,if_neg (by simp),ZhH m _ 0 ls h2,if_neg (by have:=hl.len;simp;omega)];have hg:Xq m (Qe (Qb ls m.inst) m) (Qb ls m.inst)=[]:=by rw[h2];unfold Xq QT;split<;>rfl
   have hs:Yh m (Qe (Qb ls m.inst) m) (Qb ls m.inst)=[]:=by rw[h2];rfl
   rw[hg,hs];rfl
  ·rw[if_neg h2]
   by_cases h3:((QZ m (Qe (Qb ls m.inst) m) (Qb ls m.inst)).any fun z=>decide (z.id∈ls.map (·.id)))=true
   ·rw[if_pos h3,if_pos h3]
   ·rw[if_neg h3,if_neg h3]
    have hfree:∀z∈QZ m (Qe (Qb ls m.inst) m) (Qb ls m.inst),z.id ∉ ls.map (·.id):=by
     intro z hz hin
     apply h3
     rw[List.any_eq_true];exact⟨z,hz,by simpa using hin⟩
    obtain⟨A,B,e,hc⟩:=Zf6 (Qn m (Qe (Qb ls m.inst) m).m 0 ls) m.other
    have hk:=Zcy hl hm h2;have hsub:=ZaL m (Qe (Qb ls m.inst) m).m 0 ls;rw[e] at hk hsub
    have hin:∀z∈QZ m (Qe (Qb ls m.inst) m) (Qb ls m.inst),z.inst=m.other:=by
     intro z hz;obtain⟨i,y,hy,hn,rfl⟩:=ZaK hz
     rfl
    have heq:=Za3 m.other (QZ m (Qe (Qb ls m.inst) m) (Qb ls m.inst)) A B hc hk (by
     intro z hz;obtain⟨i,y,hy,hn,rfl⟩:=ZaK hz
     refine⟨Zig (Xr hl _) hm h2 (Nat.le_trans (Yp _ _) hl.len) hy hn,rfl,fun hin=>hfree _ hz (hsub.subset hin)⟩)
     (Zcx m _ _ (Xn _ m).1)
    rw[e,heq,ZkX m.other _ A B hc hin];have hAB:(A++B).length<=1000:=hk.len
    by_cases h4:1000<(A++B).length+(QZ m (Qe (Qb ls m.inst) m) (Qb ls m.inst)).length
    ·rw[if_pos h4,if_neg];rintro(h5|h5)
     ·rw[h5] at h4;simp only[List.length_nil] at h4;omega
     ·omega
    ·rw[if_neg h4,if_pos (.inr (by omega))]
theorem ZdG{m:Mp}{x:Plan}{old:List Lot}{i:Nat}{y:Lot}(h:old[i]?=some y):QW m x old (i+1)=QW m x old i++Zbz m x i y:=by
 unfold QW;rw[List.range_succ,List.flatMap_append];simp only[List.flatMap_cons,List.flatMap_nil,List.append_nil,h]
theorem ZkY{ls:List Lot}{m:Mp}(hl:LotsOk ls)(hm:m.Ok)(h2:Qb ls m.inst≠[]):QZ m (Qe (Qb ls m.inst) m) (Qb ls m.inst)=[]↔(Qe (Qb ls m.inst) m).parts=0:=by
 have hok:=Xr hl m.inst;have hlen:=(Xn (Qb ls m.inst) m).1;have hsum:=(VE hok hm h2).1
 have hl2:(QZ m (Qe (Qb ls m.inst) m) (Qb ls m.inst)).length=QD (Qe (Qb ls m.inst) m).n (Qb ls m.inst).length:=by
  rw[<-ZdF m hlen,ZgA,ZbO m hlen _ (Nat.le_refl _)]
 rw[<-List.length_eq_zero_iff,hl2,<-hlen,Zki]
 constructor
 ·intro h;rw[<-hsum];exact Zho h
 ·intro h;rw[h] at hsum
  have hz:=Zbw (l:=(Qe (Qb ls m.inst) m).n) (fun a ha=>by
   obtain⟨i,hi⟩:=List.getElem?_of_mem ha
   have hlt:=(List.getElem?_eq_some_iff.1 hi).1;have h3:=(ZbB hok hm h2 (List.getElem?_eq_getElem (l:=Qb ls m.inst) (i:=i) (by omega))).n;rw[YB hi] at h3;exact h3) hsum
  rw[List.countP_eq_zero];intro a ha;simp[hz a ha]
end
section
attribute [local go_sem ↓] Go.wp_at_zero Go.wp_at_succ VT
theorem Zjo(q:Rat):(Xe q 0==0)=decide (q=0):=by
 unfold Xe
 by_cases h1:q<0
 ·have:q≠0:=fun e=>by rw[e] at h1;exact Rat.lt_irrefl h1
  simp[h1,this]
 ·rw[if_neg h1]
  by_cases h2:0<q
  ·have:q≠0:=fun e=>by rw[e] at h2;exact Rat.lt_irrefl h2
   simp[h2,this]
  ·have h1':=Rat.not_lt.1 h1;have h2':=Rat.not_lt.1 h2;have:q=0:=Rat.le_antisymm h2' h1'
   simp[this]
def ZgD(g:Gain):Array Value:=#[.string ⟨g.cause.toArray⟩,.string ⟨g.lot.toArray⟩,.string ⟨g.inst.toArray⟩,.int .i64 g.acq,.int .i64 g.closed,.string ⟨g.q.toArray⟩,.string ⟨g.proceeds.toArray⟩,.string ⟨g.cost.toArray⟩,.string ⟨g.deferred.toArray⟩,.string ⟨g.replaced.toArray⟩]
theorem ZgE(g:Gain):(ZgD g).toList=[g].flatMap G10:=rfl
theorem Ziw{W:World}{base g:Nat}{u:Value}{xs:List Gain}(h:Own G10 10 57 W base u xs)(hg:u.ownBlock=some g):base<=g/\g<W.1.size:=by
 obtain⟨A,c,rfl,_,_,_,h5⟩:=h.form
 exact(h5 g hg).2
theorem Zjp(v:PlV)(x:Plan)(old:List Lot)(pn pm pf pp n₀:Nat)(w:World)(hp:Env w)(hM:PlM w n₀ v x old pn pm pf pp)(hn₀:n₀<=w.1.size)(hz:(Qf x.part).Sz 20000)(hn:old.length<=1000):
 Calls Tryz.prog 30 #[.agg (plA v).toArray] w (RetOwn G10 10 57 w.1.size w (Xq v.m x old)):=by
 rw[YA];have HB:=jq (show BlkB (w.alloc (.cells (Xc v) 60)) w.1.size (Xc v) 60 from heap_alloc_new w _);have HBW:=jq ((Below.refl w.1.size w).alloc (Nat.le_refl _) (.cells (Xc v) 60));have HSZ:=jq (show(w.alloc (.cells (Xc v) 60)).heap.size=w.1.size+1 by simp);have hp1:=jq (hp.here HBW.out);have HM:=jq (hM.below (HBW.out.mono hn₀));have HSG:=jq (Ju (Qf x.part) hz (w.alloc (.cells (Xc v) 60)) hp1.out);rw[Qj] at HSG;have HSZ0:=jq (Zjo x.part);have hnl:v.on<=1000:=by rw[hM.len];exact hn
 obtain⟨N,hN⟩:∃N,N=v.on:=⟨_,rfl⟩
 have HNN:=jq hN;have HLN:=jq (show N=old.length by rw[hN];exact hM.len);have E0:=jq (show(Xc v)[0]?=some (.string ⟨v.m.cause.toArray⟩) from rfl);have E1:=jq (show(Xc v)[1]?=some (.int .i64 v.m.day) from rfl);have E3:=jq (show(Xc v)[3]?=some (.string ⟨v.m.other.toArray⟩) from rfl);have E11:=jq (show(Xc v)[11]?=some (.slice v.oA N v.oc) by rw[hN];rfl);have E13:=jq (show(Xc v)[13]?=some (.string ⟨(Qf x.part).n.toArray⟩) by rw[<-hM.part];rfl);have E14:=jq (show(Xc v)[14]?=some (.string ⟨(Qf x.part).d.toArray⟩) by rw[<-hM.part];rfl);have E17:=jq (show(Xc v)[17]?=some (.slice (some ⟨pf,0,none⟩) N N) by rw[hN,<-hM.ef];rfl);have E18:=jq (show(Xc v)[18]?=some (.slice (some ⟨pp,0,none⟩) N N) by rw[hN,<-hM.ep];rfl);have HPO:=jq (show RetOwn G10 10 57 w.1.size w (Xq v.m x old)=fun e w'=>∃A c,e=.returned (.slice A (Xq v.m x old).length c)/\Own G10 10 57 w' w.1.size (.slice A (Xq v.m x old).length c) (Xq v.m x old)/\Below w.1.size w w' from rfl);have HGL:=jq (show Xq v.m x old=if x.part=0 then[] else QT v.m x old old.length from rfl);generalize RetOwn G10 10 57 w.1.size w (Xq v.m x old)=post at*;generalize Xq v.m x old=gl at*;generalize Xc v=pb at*;have hnl2:N<=1000:=by rw[hN];exact hnl
 generalize hoA:v.oA=oA at*;generalize v.oc=oc at*;have HOA:=jq hoA;have HNW:=jq hn₀;have c11:=HB.out.cell 11 E11.out;have c13:=HB.out.cell 13 E13.out;have c14:=HB.out.cell 14 E14.out;generalize Qf x.part=fpt at*;generalize Xe x.part 0=sg at*;clear hp hM hz hn hn₀ hN hnl hoA;unfold QC S at HSG;go_enter Tryz.func30,Tryz.ntmps30
 go_wp2_with fail
 generalize w.alloc (.cells pb 60)=W1 at*;refine HSG.out.mono ?_;rintro e w1 ⟨rfl,hb⟩
 by_cases h0:x.part=0
 ·have hs0:(sg==0)=true:=by rw[HSZ0.out];simp[h0]
  rw[if_pos h0] at HGL;clear h0;go_wp2_with fail
  first|go_ret|skip
  rw[HPO.out,HGL.out];exact⟨none,0,rfl,Own.nil,HBW.out.trans (hb.mono HBW.out.size)⟩
 ·have hs0:(sg==0)=false:=by rw[HSZ0.out];simp[h0]
  rw[if_neg h0] at HGL;clear h0;have HB1:=jq hb;have HBB:=jq (HB.out.here hb);clear hb c11 c13 c14;have c11:=HBB.out.cell 11 E11.out;go_wp2_with fail
  go_loopw [3,4,5,13] (fun s _ _ j wr=>∃(k:Nat) (A1:Option Addr) (c1:Nat),k<=N/\j=.int .i64 k/\s=.slice A1 (QT v.m x old k).length c1/\Hid (Own G10 10 57 wr W1.1.size (.slice A1 (QT v.m x old k).length c1) (QT v.m x old k))/\Hid (Below W1.1.size W1 wr)) (fun _ _ _ j _=>N-(intOf j).toNat)
  case atStart=>exact⟨0,none,0,Nat.zero_le _,rfl,rfl,Own.nil,HB1.out⟩
  case round=>
   clear c11;obtain⟨k,A1,c1,hk,rfl,rfl,HOW,HBR⟩:=hrel
   have HBX:=jq (show BlkB wr w.1.size pb 60 from(HBR.out.block _ HB.out.lt).trans HB.out);have hnw:n₀<=W1.1.size:=by have:=HNW.out;have:=HSZ.out;omega
   by_cases hlt:k<N
   ·have hLT:QU wr n₀ oA N old:=by rw[HNN.out,<-HOA.out];exact(HM.out.below (HBR.out.mono hnw)).lots
    obtain⟨b,off,y,hAe,hb,hy,d0,d1,d2,d3,d4,d5,d6⟩:=hLT.lot7 hlt
    subst hAe;have HGS:=jq (ZcB v.m x old k);rw[hy] at HGS;have HGK:=jq (Za7 v.m x old k);clear hy hLT;have c17:=HBX.out.cell 17 E17.out;have c18:=HBX.out.cell 18 E18.out
    have HPM:=jq (show ∀X,Below W1.1.size W1 X->X.cell? ⟨pp,k,none⟩=some (.string ⟨(Qa (x.p.getD k 0)).toArray⟩)/\X.cell? ⟨pf,k,none⟩=some (.string ⟨(Qa (x.f.getD k 0)).toArray⟩) from fun X hX=>
     ⟨(HM.out.below (hX.mono hnw)).bp.cell k (by rw[<-HNN.out,QQ _ _ _ _ hlt,if_pos hlt]),(HM.out.below (hX.mono hnw)).bf.cell k (by rw[<-HNN.out,QQ _ _ _ _ hlt,if_pos hlt])⟩)
    have hpl:pp<W1.1.size/\pf<W1.1.size:=⟨HM.out.bp.lt,HM.out.bf.lt⟩;obtain⟨ppk,pfk⟩:=HPM.out wr HBR.out
    have hwr:=HBR.out.size;have hwl:w.1.size<wr.1.size:=HBX.out.lt;have nb:w.1.size≠wr.1.size:=by omega
    have np:pp≠wr.1.size:=by omega
    have nf:pf≠wr.1.size:=by omega
    have lp:pp<wr.1.size:=by omega
    have lf:pf<wr.1.size:=by omega
    have i1:(0:Int)<=(k:Int):=by omega
    have i2:(k:Int)<(N:Int):=by omega
    have HA1:=jq (HBR.out.alloc HBR.out.size (.cells #[.string ⟨y.id.toArray⟩,.string ⟨y.inst.toArray⟩,.int .i64 y.acq,.int .i64 y.opn,.string ⟨y.q.toArray⟩,.string ⟨y.c.toArray⟩,.string ⟨y.u.toArray⟩] 54));have HO1:=jq (HOW.out.alloc (.cells #[.string ⟨y.id.toArray⟩,.string ⟨y.inst.toArray⟩,.int .i64 y.acq,.int .i64 y.opn,.string ⟨y.q.toArray⟩,.string ⟨y.c.toArray⟩,.string ⟨y.u.toArray⟩] 54));have HYB:=jq (heap_alloc_new wr (.cells #[.string ⟨y.id.toArray⟩,.string ⟨y.inst.toArray⟩,.int .i64 y.acq,.int .i64 y.opn,.string ⟨y.q.toArray⟩,.string ⟨y.c.toArray⟩,.string ⟨y.u.toArray⟩] 54));clear hwr hpl
    by_cases hno:x.p.getD k 0=0/\x.f.getD k 0=0
    ·have HG2:=jq (show QT v.m x old (k+1)=QT v.m x old k by rw[HGS.out];simp only[if_pos hno,List.append_nil]);have hp1:(Qa (x.p.getD k 0)==[])=true:=by rw[XB];exact decide_eq_true hno.1
     have hp2:(Qa (x.p.getD k 0)).isEmpty=true:=by rw[XQ];exact hp1
     have hf1:(Qa (x.f.getD k 0)==[])=true:=by rw[XB];exact decide_eq_true hno.2
     have hf2:(Qa (x.f.getD k 0)).isEmpty=true:=by rw[XQ];exact hf1
     generalize Qa (x.p.getD k 0)=tp at*;generalize Qa (x.f.getD k 0)=tf at*;clear hno
     go_wp2
     go_roundw
     case rel=>exact⟨k+1,A1,c1,by omega,by go_num,by rw[HG2.out],(show Own _ _ _ _ _ _ _ by rw[HG2.out];exact HO1.out),HA1⟩
     case measure=>simp[intOf];omega
    ·obtain⟨g,hg⟩:∃g:Gain,g={cause:=v.m.cause,lot:=y.id,inst:=v.m.other,acq:=y.acq,closed:=v.m.day,q:=[],proceeds:=Qa (x.p.getD k 0),cost:=Qa (x.f.getD k 0),deferred:=[],replaced:=[]}:=⟨_,rfl⟩
     have HG2:=jq (show QT v.m x old (k+1)=QT v.m x old k++[g] by rw[HGS.out,hg];simp only[if_neg hno]);have HGC:=jq (show ZgD g=#[.string ⟨v.m.cause.toArray⟩,.string ⟨y.id.toArray⟩,.string ⟨v.m.other.toArray⟩,.int .i64 y.acq,.int .i64 v.m.day,.string ⟨#[]⟩,.string ⟨(Qa (x.p.getD k 0)).toArray⟩,.string ⟨(Qa (x.f.getD k 0)).toArray⟩,.string ⟨#[]⟩,.string ⟨#[]⟩] by rw[hg];rfl)
     have HSS:=jq (show ∀X,Below W1.1.size W1 X->BlkB X wr.1.size #[.string ⟨y.id.toArray⟩,.string ⟨y.inst.toArray⟩,.int .i64 y.acq,.int .i64 y.opn,.string ⟨y.q.toArray⟩,.string ⟨y.c.toArray⟩,.string ⟨y.u.toArray⟩] 54->
      X.cell? ⟨w.1.size,0,none⟩=some (.string ⟨v.m.cause.toArray⟩)/\X.cell? ⟨w.1.size,1,none⟩=some (.int .i64 v.m.day)/\X.cell? ⟨w.1.size,3,none⟩=some (.string ⟨v.m.other.toArray⟩)/\X.cell? ⟨w.1.size,17,none⟩=some (.slice (some ⟨pf,0,none⟩) N N)/\X.cell? ⟨w.1.size,18,none⟩=some (.slice (some ⟨pp,0,none⟩) N N)/\
      X.cell? ⟨pp,k,none⟩=some (.string ⟨(Qa (x.p.getD k 0)).toArray⟩)/\X.cell? ⟨pf,k,none⟩=some (.string ⟨(Qa (x.f.getD k 0)).toArray⟩)/\X.cell? ⟨wr.1.size,0,none⟩=some (.string ⟨y.id.toArray⟩)/\X.cell? ⟨wr.1.size,2,none⟩=some (.int .i64 y.acq) from fun X hX hq=>
        ⟨BlkB.cell ((hX.block _ HB.out.lt).trans HB.out) 0 E0.out,BlkB.cell ((hX.block _ HB.out.lt).trans HB.out) 1 E1.out,BlkB.cell ((hX.block _ HB.out.lt).trans HB.out) 3 E3.out,BlkB.cell ((hX.block _ HB.out.lt).trans HB.out) 17 E17.out,BlkB.cell ((hX.block _ HB.out.lt).trans HB.out) 18 E18.out,(HPM.out X hX).1,(HPM.out X hX).2,hq.cell 0 rfl,hq.cell 2 rfl⟩)
     have hcase:(Qa (x.p.getD k 0)==[])=false\/((Qa (x.p.getD k 0)==[])=true/\(Qa (x.f.getD k 0)==[])=false):=by
      rw[XB,XB]
      by_cases h1:x.p.getD k 0=0
      ·exact .inr ⟨decide_eq_true h1,decide_eq_false (fun h2=>hno ⟨h1,h2⟩)⟩
      ·exact .inl (decide_eq_false h1)
     have HL:=jq (show(QT v.m x old k).length<=1000 by have:=HGK.out;omega);generalize QT v.m x old k=gk at*;generalize Qa (x.p.getD k 0)=tp at*;generalize Qa (x.f.getD k 0)=tf at*;clear hno hg HGS HGK HPM;have HNB:=jq nb;have HO0:=jq HOW.out;have HO1':Own G10 10 57 wr W1.1.size (.slice A1 gk.length c1) gk:=HOW.out;have HX1:=jq HO1';clear HO1' HO0
     rcases hcase with hp1|⟨hp1,hf1⟩
     all_goals
      first
       |have hp2:tp.isEmpty=false:=by rw[XQ];exact hp1
       |(have hp2:tp.isEmpty=true:=by rw[XQ];exact hp1
         have hf2:tf.isEmpty=false:=by rw[XQ];exact hf1)
      go_wp2
      generalize wr.alloc _=Wy at*;have hq1:BlkB Wy.drew wr.1.size #[.string ⟨y.id.toArray⟩,.string ⟨y.inst.toArray⟩,.int .i64 y.acq,.int .i64 y.opn,.string ⟨y.q.toArray⟩,.string ⟨y.c.toArray⟩,.string ⟨y.u.toArray⟩] 54:=HYB.out;have hb1:Below W1.1.size W1 Wy.drew:=HA1.out.drew;have hq2:BlkB (Wy.alloc (.cells #[.string ⟨v.m.cause.toArray⟩,.string ⟨y.id.toArray⟩,.string ⟨v.m.other.toArray⟩,.int .i64 y.acq,.int .i64 v.m.day,.string ⟨#[]⟩,.string ⟨tp.toArray⟩,.string ⟨tf.toArray⟩,.string ⟨#[]⟩,.string ⟨#[]⟩] 57)).drew wr.1.size #[.string ⟨y.id.toArray⟩,.string ⟨y.inst.toArray⟩,.int .i64 y.acq,.int .i64 y.opn,.string ⟨y.q.toArray⟩,.string ⟨y.c.toArray⟩,.string ⟨y.u.toArray⟩] 54:=BlkB.alloc HYB.out _;have hb2:Below W1.1.size W1 (Wy.alloc (.cells #[.string ⟨v.m.cause.toArray⟩,.string ⟨y.id.toArray⟩,.string ⟨v.m.other.toArray⟩,.int .i64 y.acq,.int .i64 v.m.day,.string ⟨#[]⟩,.string ⟨tp.toArray⟩,.string ⟨tf.toArray⟩,.string ⟨#[]⟩,.string ⟨#[]⟩] 57)).drew:=(HA1.out.alloc HA1.out.size _).drew;have hown2:Own G10 10 57 (Wy.alloc (.cells #[.string ⟨v.m.cause.toArray⟩,.string ⟨y.id.toArray⟩,.string ⟨v.m.other.toArray⟩,.int .i64 y.acq,.int .i64 v.m.day,.string ⟨#[]⟩,.string ⟨tp.toArray⟩,.string ⟨tf.toArray⟩,.string ⟨#[]⟩,.string ⟨#[]⟩] 57)).drew W1.1.size (.slice A1 gk.length c1) gk:=(HO1.out.alloc _).drew
      have hsl2:Gns (Wy.alloc (.cells #[.string ⟨v.m.cause.toArray⟩,.string ⟨y.id.toArray⟩,.string ⟨v.m.other.toArray⟩,.int .i64 y.acq,.int .i64 v.m.day,.string ⟨#[]⟩,.string ⟨tp.toArray⟩,.string ⟨tf.toArray⟩,.string ⟨#[]⟩,.string ⟨#[]⟩] 57)).drew (Wy.1.size+1) (some ⟨Wy.1.size,0,none⟩) 1 [g]:=by
       have h:=(Sl.lit (enc:=G10) (k:=10) Wy (ZgD g) 57 [g] (ZgE g) VU).drew;rw[HGC.out] at h;exact h
      have HQ1:=jq hq1;have HB1':=jq hb1;have HQ2:=jq hq2;have HB2:=jq hb2;have HW2:=jq hown2;have HS2:=jq hsl2;clear hq1 hb1 hq2 hb2 hown2 hsl2;have hgl:gk.length+1<=100000000000:=by have:=HL.out;omega
      have HGE:=jq hgl;clear hgl c17 c18 ppk pfk
      go_region_held3 (fun X=>X.cell? ⟨w.1.size,0,none⟩=some (.string ⟨v.m.cause.toArray⟩)/\X.cell? ⟨w.1.size,1,none⟩=some (.int .i64 v.m.day)/\X.cell? ⟨w.1.size,3,none⟩=some (.string ⟨v.m.other.toArray⟩)/\X.cell? ⟨w.1.size,17,none⟩=some (.slice (some ⟨pf,0,none⟩) N N)/\X.cell? ⟨w.1.size,18,none⟩=some (.slice (some ⟨pp,0,none⟩) N N)/\X.cell? ⟨pp,k,none⟩=some (.string ⟨tp.toArray⟩)/\X.cell? ⟨pf,k,none⟩=some (.string ⟨tf.toArray⟩)/\X.cell? ⟨wr.1.size,0,none⟩=some (.string ⟨y.id.toArray⟩)/\X.cell? ⟨wr.1.size,2,none⟩=some (.int .i64 y.acq))
       (first
         |with_reducible exact k2
         |with_reducible exact HSS.out _ HB1'.out HQ1.out
         |with_reducible exact HSS.out _ HB2.out HQ2.out
         |go_keep)
       ((refine XT _ (by rfl) (.tmp 32) (.tmp 57) _ (by rfl) ZeB VU Zgk (.slice A1 gk.length c1) gk (by rfl) HW2.out _ _ 1 1 [g] (by rfl) HS2.out HGE.out HB2.out.size ?_
         intro A2 c2 w2 ho2 hg2 _;have hb3:=Qm HB2.out hg2 HB2.out.size (fun g hg=>(Ziw HW2.out hg).1)
         have hq3:BlkB w2 wr.1.size #[.string ⟨y.id.toArray⟩,.string ⟨y.inst.toArray⟩,.int .i64 y.acq,.int .i64 y.opn,.string ⟨y.q.toArray⟩,.string ⟨y.c.toArray⟩,.string ⟨y.u.toArray⟩] 54:=(hg2.block _ HQ2.out.lt (fun e=>by
          have:=(Ziw HX1.out e.symm).2
          omega)).trans HQ2.out
         have k2:=HSS.out w2 hb3 hq3))
      all_goals
       go_wp2_with fail
       go_roundw
       case rel=>
        have hl:(QT v.m x old (k+1)).length=gk.length+1:=by rw[HG2.out];simp
        exact⟨k+1,A2,c2,by omega,by go_num,by rw[hl],(show Own _ _ _ _ _ _ _ by rw[hl,HG2.out];exact ho2),hb3⟩
       case measure=>simp[intOf];omega
   ·obtain rfl:k=N:=by omega
    go_wp2_with fail
    first|go_ret|skip
    rw[HPO.out,HGL.out,<-HLN.out];exact⟨A1,c1,rfl,HOW.out.base_ HBW.out.size,HBW.out.trans (HBR.out.mono HBW.out.size)⟩
end
end Go.Proofs.YtpnncoinlopndaaGreatDoor
