/- Mk2, Mwp, Cf, Nm, Lt0. -/
import Derived.Test.YtpnncoinlopndaaGreatDoorQGSm10
import Derived.Laws.IdiomStrings
import Derived.Lib.AtoiAllCases
import Derived.Lib.IndexLaws
set_option maxRecDepth 100000
set_option maxHeartbeats 8000000
namespace Go.Proofs.YtpnncoinlopndaaGreatDoor
open Go.Lib renaming hid→hdz
section
open Go.RowKit Go.Shelf
attribute [local go_sem ↓] Go.wp_at_zero Go.wp_at_succ Zce
theorem Zep(m:Mp)(ms:List Int)(k:Nat)(l:List Lot):(keptL m ms k l).length≤l.length:=by
 induction l generalizing k with
 |nil=>simp[keptL]
 |cons a l ih=>
  have h1:=ih (k+1)
  have h2:=ih k
  simp only[keptL]
  split
  ·split<;>simp<;>omega
  ·simp;omega
theorem Zl5{W:World}{base g:Nat}{u:Value}{xs:List Lot}(h:Own L7 7 54 W base u xs)(hg:u.ownBlock=some g):base≤g:=by
 obtain⟨A,c,rfl,_,_,_,h5⟩:=h.form
 exact(h5 g hg).2.1
theorem Below.set5{W w:World}{n:Nat}{u:Value}(h:Below n W w):Below n W (w.setCell ⟨n,5,none⟩ u):=h.setCell (Nat.le_refl _) _
theorem Znq{W:World}{q:Nat}{y:Lot}(h:BlkB W q (lotC7 y) 54):Lots W W.heap.size (some ⟨q,0,none⟩) 1 [y]:=by
 refine⟨rfl,fun _=>⟨q,0,rfl,h.lt,fun j z hj k u hk=> ?_⟩⟩
 cases j with
 |zero=>
  simp only[List.getElem?_cons_zero,Option.some.injEq] at hj
  subst hj
  rw[Nat.zero_mul,Nat.zero_add]
  exact h.cell k (by rw[←Zc8];simpa using hk)
 |succ j=>simp at hj
theorem Zk8(v:PlV)(x:Plan)(old:List Lot)(pn pm pf pp n₀:Nat)(A:Option Addr)(n c:Nat)(ls:List Lot)(w:World)(hp:Env w)(hM:PlM w n₀ v x old pn pm pf pp)(hn₀:n₀≤w.heap.size)(hz:PlSz 20000 x)
 (hs:Lots w w.heap.size A n ls) (hl:∀y∈ls,y.Sz 50000) (hn:n≤1000) (ho:old.length=ls.countP (fun z=>decide (z.inst=v.m.inst))):
 Calls Tryz.prog 29 #[.agg (plA v).toArray,.slice A n c] w (RetOwn L7 7 54 w.heap.size w (keptL v.m x.m 0 ls)):=by
 rw[Zbt]
 have HB:=hdz (show BlkB (w.alloc (.cells (plB v) 60)) w.heap.size (plB v) 60 from heap_alloc_new w _)
 have HBW:=hdz ((Below.refl w.heap.size w).alloc (Nat.le_refl _) (.cells (plB v) 60))
 have HSZ:=hdz (show(w.alloc (.cells (plB v) 60)).heap.size=w.heap.size+1 by simp)
 have hp1:=hdz (hp.here HBW.out)
 have HM:=hdz (hM.below (HBW.out.mono hn₀))
 have HS:=hdz (hs.below HBW.out)
 have HZ:=hdz hz;have HL:=hdz hl;have HO:=hdz ho
 have E2:=hdz (show(plB v)[2]?=some (.string ⟨v.m.inst.toArray⟩) from rfl)
 have E10:=hdz (show(plB v)[10]?=some (.bool v.m.keep) from rfl)
 have E16:=hdz (show(plB v)[16]?=some (.slice (some ⟨pm,0,none⟩) v.on v.on) by rw[←hM.em];rfl)
 have HPO:=hdz (show RetOwn L7 7 54 w.heap.size w (keptL v.m x.m 0 ls)=fun e w'=>∃A c,e=.returned (.slice A (keptL v.m x.m 0 ls).length c)∧Own L7 7 54 w' w.heap.size (.slice A (keptL v.m x.m 0 ls).length c) (keptL v.m x.m 0 ls)∧Below w.heap.size w w' from rfl)
 generalize RetOwn L7 7 54 w.heap.size w (keptL v.m x.m 0 ls)=post at*
 generalize plB v=pb at*
 have HLE:=hdz hs.1
 have HNN:=hdz hn₀
 clear hp hM hz hs hl ho hn₀
 go_enter Tryz.func29,Tryz.ntmps29
 go_wp2
 generalize w.alloc (.cells pb 60)=W1 at*
 go_loopw [5,6,8,11] (fun s a _ j wr=>∃(k at_:Nat) (A1:Option Addr) (c1:Nat),k≤n∧j=.int .i64 k∧a=.int .i64 at_∧s=.slice A1 (keptL v.m x.m 0 (ls.take k)).length c1∧Hid (v.m.keep=true→at_=(ls.take k).countP (fun z=>decide (z.inst=v.m.inst)))∧Hid (Own L7 7 54 wr W1.heap.size (.slice A1 (keptL v.m x.m 0 (ls.take k)).length c1) (keptL v.m x.m 0 (ls.take k)))∧Hid (Below W1.heap.size W1 wr)) (fun _ _ _ j _=>n-(intOf j).toNat)
 case atStart=>exact⟨0,0,none,0,Nat.zero_le _,rfl,rfl,rfl,(show _→_ from fun _=>rfl),Own.nil,Below.refl _ _⟩
 case round=>
  obtain⟨k,at_,A1,c1,hk,rfl,rfl,rfl,HAT,HOW,HBR⟩:=hrel
  by_cases hlt:k<n
  ·have hwl:w.heap.size≤W1.heap.size:=by have:=HSZ.out;omega
   obtain⟨b,off,y,rfl,hb,hy,d0,d1,d2,d3,d4,d5,d6⟩:=(HS.out.below (HBR.out.mono hwl)).lot7 hlt
   have HTK:=hdz (show ls.take (k+1)=ls.take k++[y] by
    obtain⟨h1,h2⟩:=List.getElem?_eq_some_iff.1 hy
    rw[List.take_succ_eq_append_getElem h1,h2])
   have HKS:=hdz (Zik v.m x.m 0 (ls.take k) y)
   have HYI:=hdz hy
   clear hy
   have HBP:=hdz (show BlkB wr w.heap.size pb 60 from(HBR.out.block _ HB.out.lt).trans HB.out)
   have c2:=HBP.out.cell 2 E2.out
   have c10:=HBP.out.cell 10 E10.out
   have hpl:w.heap.size<wr.heap.size:=HBP.out.lt
   have hpn:w.heap.size≠wr.heap.size:=by omega
   have HA1:=hdz (HBR.out.alloc HBR.out.size (.cells #[.string ⟨y.id.toArray⟩,.string ⟨y.inst.toArray⟩,.int .i64 y.acq,.int .i64 y.opn,.string ⟨y.q.toArray⟩,.string ⟨y.c.toArray⟩,.string ⟨y.u.toArray⟩] 54))
   have HO1:=hdz (HOW.out.alloc (.cells #[.string ⟨y.id.toArray⟩,.string ⟨y.inst.toArray⟩,.int .i64 y.acq,.int .i64 y.opn,.string ⟨y.q.toArray⟩,.string ⟨y.c.toArray⟩,.string ⟨y.u.toArray⟩] 54))
   rw[←HTK.out] at HKS
   by_cases hi:y.inst=v.m.inst
   ·have hi2:(y.inst==v.m.inst)=true:=by simp[hi]
    cases hkp:v.m.keep with
    |false=>
     rw[hkp] at c10
     have HK2:=hdz (show keptL v.m x.m 0 (ls.take (k+1))=keptL v.m x.m 0 (ls.take k) by rw[HKS.out];simp[keptL,hi,hkp])
     clear hi
     go_wp2
     go_roundw
     case rel=>exact⟨k+1,at_,A1,c1,by omega,by go_num,rfl,by rw[HK2.out],(show _→_ from fun h=>by first|(rw[hkp] at h;cases h)|cases h),(show Own _ _ _ _ _ _ _ by rw[HK2.out];exact HO1.out),HA1⟩
     case measure=>simp[intOf];omega
    |true=>
     rw[hkp] at c10
     obtain⟨z,hzd⟩:∃z:Lot,z={y with c:=txtL (val y.c-x.m.getD at_ 0)}:=⟨_,rfl⟩
     have hatk:at_=(ls.take k).countP (fun z=>decide (z.inst=v.m.inst)):=HAT.out hkp
     have HK2:=hdz (show keptL v.m x.m 0 (ls.take (k+1))=keptL v.m x.m 0 (ls.take k)++[z] by rw[HKS.out,hzd,hatk];simp[keptL,hi,hkp])
     have HCP:=hdz (show(ls.take (k+1)).countP (fun z=>decide (z.inst=v.m.inst))=at_+1 by rw[HTK.out,List.countP_append,hatk];simp[hi])
     have hlo:at_<v.on:=by
      have h1:(ls.take (k+1)).countP (fun z=>decide (z.inst=v.m.inst))≤ls.countP (fun z=>decide (z.inst=v.m.inst)):=(List.take_sublist _ _).countP_le
      rw[HCP.out,←HO.out,←HM.out.len] at h1
      omega
     have hak:at_≤k:=by rw[hatk];exact Nat.le_trans List.countP_le_length (by rw[List.length_take];omega)
     clear hi hatk
     have i1:(0:Int)≤(at_:Int):=by omega
     have i2:(at_:Int)<(v.on:Int):=by omega
     have HZ1:=hdz (show lotC7 z=#[.string ⟨y.id.toArray⟩,.string ⟨y.inst.toArray⟩,.int .i64 y.acq,.int .i64 y.opn,.string ⟨y.q.toArray⟩,.string ⟨z.c.toArray⟩,.string ⟨y.u.toArray⟩] by rw[hzd];rfl)
     have HSB:=hdz (fun W (hp:Pow W)=>ZcI y.c (txtL (x.m.getD at_ 0)) W hp (by have:=(HL.out y (List.mem_of_getElem? HYI.out)).c;omega) (by have:=HZ.out.m at_;omega))
     rw[Zaa,show txtL (val y.c-x.m.getD at_ 0)=z.c by rw[hzd]] at HSB
     have HPM:=hdz (show ∀X,PlM X n₀ v x old pn pm pf pp→X.cell? ⟨pm,at_,none⟩=some (.string ⟨(txtL (x.m.getD at_ 0)).toArray⟩) from fun X hm=>hm.bm.cell at_ (by rw[Zaq _ _ _ _ hlo,if_pos hlo]))
     clear hzd
     generalize txtL (x.m.getD at_ 0)=tm at*
     have HSS:=hdz (show ∀X,Below wr.heap.size wr X→X.cell? ⟨w.heap.size,16,none⟩=some (.slice (some ⟨pm,0,none⟩) v.on v.on)∧X.cell? ⟨pm,at_,none⟩=some (.string ⟨tm.toArray⟩) from fun X h=>
      ⟨(HBP.out.here h).cell 16 E16.out,HPM.out X (HM.out.below ((HBR.out.trans (h.mono HBR.out.size)).mono (Nat.le_trans HNN.out hwl)))⟩)
     unfold S at HSB
     go_wp2
     have HYB:=hdz (show BlkB (wr.alloc (.cells #[.string ⟨y.id.toArray⟩,.string ⟨y.inst.toArray⟩,.int .i64 y.acq,.int .i64 y.opn,.string ⟨y.q.toArray⟩,.string ⟨y.c.toArray⟩,.string ⟨y.u.toArray⟩] 54)) wr.heap.size #[.string ⟨y.id.toArray⟩,.string ⟨y.inst.toArray⟩,.int .i64 y.acq,.int .i64 y.opn,.string ⟨y.q.toArray⟩,.string ⟨y.c.toArray⟩,.string ⟨y.u.toArray⟩] 54 from heap_alloc_new wr _)
     have HBY:=hdz ((Below.refl wr.heap.size wr).alloc (Nat.le_refl _) (.cells #[.string ⟨y.id.toArray⟩,.string ⟨y.inst.toArray⟩,.int .i64 y.acq,.int .i64 y.opn,.string ⟨y.q.toArray⟩,.string ⟨y.c.toArray⟩,.string ⟨y.u.toArray⟩] 54))
     have HSY:=hdz (show(wr.alloc (.cells #[.string ⟨y.id.toArray⟩,.string ⟨y.inst.toArray⟩,.int .i64 y.acq,.int .i64 y.opn,.string ⟨y.q.toArray⟩,.string ⟨y.c.toArray⟩,.string ⟨y.u.toArray⟩] 54)).heap.size=wr.heap.size+1 by simp)
     generalize wr.alloc _=Wy at*
     clear d0 d1 d2 d3 d4 d5 d6 c2 c10
     obtain⟨y1,y2⟩:=HSS.out _ HBY.out
     have y5:=HYB.out.cell 5 rfl
     have HPW:=hdz ((hp1.out.here HA1.out.drew).pow)
     go_cut [] (fun wc=>Hid (BlkB wc wr.heap.size (lotC7 z) 54)∧Hid (Below wr.heap.size wr wc)∧Hid (Own L7 7 54 wc W1.heap.size (.slice A1 (keptL v.m x.m 0 (ls.take k)).length c1) (keptL v.m x.m 0 (ls.take k))))
     case first=>
      go_region_with
       (go_at_call 67;(refine(HSB.out _ HPW.out).mono ?_);rintro e w1 ⟨rfl,hb1⟩;unfold S;have hg1:Below wr.heap.size wr w1:=HBY.out.drew.trans (hb1.mono HBY.out.size);have hq1:BlkB w1 wr.heap.size #[.string ⟨y.id.toArray⟩,.string ⟨y.inst.toArray⟩,.int .i64 y.acq,.int .i64 y.opn,.string ⟨y.q.toArray⟩,.string ⟨y.c.toArray⟩,.string ⟨y.u.toArray⟩] 54:=BlkB.here (w:=Wy.drew) HYB.out hb1;have z5:=hq1.cell 5 rfl;have f5:=hq1.frozen 5;have k4:=(fun(u:Value)=>HSS.out _ (Below.set5 (u:=u) hg1)))
      all_goals
       go_wp2_with fail
       go_meet
       exact⟨(by
        show BlkB _ _ _ _
        rw[HZ1.out]
        have h:=hq1.set 5 (.string ⟨z.c.toArray⟩)
        simpa only[List.setIfInBounds_toArray,List.set_cons_zero,List.set_cons_succ] using h),Below.set5 hg1,HOW.out.below (Below.set5 hg1)⟩
     case rest=>
      obtain⟨HB5,HW5,HO5⟩:=hcut
      have hq5:BlkB wc wr.heap.size #[.string ⟨z.id.toArray⟩,.string ⟨z.inst.toArray⟩,.int .i64 z.acq,.int .i64 z.opn,.string ⟨z.q.toArray⟩,.string ⟨z.c.toArray⟩,.string ⟨z.u.toArray⟩] 54:=HB5.out
      have c0:=hq5.cell 0 rfl
      have c1_:=hq5.cell 1 rfl
      have c2:=hq5.cell 2 rfl
      have c3:=hq5.cell 3 rfl
      have c4:=hq5.cell 4 rfl
      have c5:=hq5.cell 5 rfl
      have c6:=hq5.cell 6 rfl
      clear HSB HPM HSS y1 y2 y5 HYB HBY HSY HPW hq5
      have HA1:=hdz (HBR.out.trans (HW5.out.mono HBR.out.size))
      have HA2:=hdz (HA1.out.alloc HA1.out.size (.cells #[.string ⟨z.id.toArray⟩,.string ⟨z.inst.toArray⟩,.int .i64 z.acq,.int .i64 z.opn,.string ⟨z.q.toArray⟩,.string ⟨z.c.toArray⟩,.string ⟨z.u.toArray⟩] 54))
      have HO2:=hdz (HO5.out.alloc (.cells #[.string ⟨z.id.toArray⟩,.string ⟨z.inst.toArray⟩,.int .i64 z.acq,.int .i64 z.opn,.string ⟨z.q.toArray⟩,.string ⟨z.c.toArray⟩,.string ⟨z.u.toArray⟩] 54))
      have HL1:=hdz (Znq (y:=z) (show BlkB (wc.alloc (.cells #[.string ⟨z.id.toArray⟩,.string ⟨z.inst.toArray⟩,.int .i64 z.acq,.int .i64 z.opn,.string ⟨z.q.toArray⟩,.string ⟨z.c.toArray⟩,.string ⟨z.u.toArray⟩] 54)) wc.heap.size (lotC7 z) 54 from heap_alloc_new wc _))
      have HLK:=hdz (show(keptL v.m x.m 0 (ls.take k)).length+1≤100000000000 from Nat.le_trans (Nat.succ_le_succ (Zep v.m x.m 0 (ls.take k))) (by rw[List.length_take];omega))
      generalize hkl:keptL v.m x.m 0 (ls.take k)=kl at*
      have HKL:=hdz hkl
      clear hkl
      go_wp2_with (at_builtin;refine Zap _ rfl (.tmp 36) (.tmp 38) _ rfl Zb0 Zah ZbC (base:=W1.heap.size) (.slice A1 _ c1) kl rfl HO2.out _ _ 1 1 [z] rfl HL1.out HLK.out HA2.out.size ?_
                   intro A2 c2 w2 ho2 hg2 _)
      go_roundw
      case rel=>
       have hl:(keptL v.m x.m 0 (ls.take (k+1))).length=kl.length+1:=by rw[HK2.out];simp
       exact⟨k+1,at_+1,A2,c2,by omega,by go_num,by go_num,by rw[hl],(show _→_ from fun h=>by rw[HCP.out]),(show Own _ _ _ _ _ _ _ by rw[hl,HK2.out];exact ho2),Zae HA2.out hg2 HA2.out.size (fun g hg=>Zl5 HO2.out hg)⟩
      case measure=>simp[intOf];omega
   ·have hi2:(y.inst==v.m.inst)=false:=by simp[hi]
    have HK2:=hdz (show keptL v.m x.m 0 (ls.take (k+1))=keptL v.m x.m 0 (ls.take k)++[y] by rw[HKS.out];simp[keptL,hi])
    have HCP:=hdz (show(ls.take (k+1)).countP (fun z=>decide (z.inst=v.m.inst))=(ls.take k).countP (fun z=>decide (z.inst=v.m.inst)) by rw[HTK.out,List.countP_append];simp[hi])
    clear hi
    have HA2:=hdz (HA1.out.alloc HA1.out.size (.cells #[.string ⟨y.id.toArray⟩,.string ⟨y.inst.toArray⟩,.int .i64 y.acq,.int .i64 y.opn,.string ⟨y.q.toArray⟩,.string ⟨y.c.toArray⟩,.string ⟨y.u.toArray⟩] 54))
    have HO2:=hdz (HO1.out.alloc (.cells #[.string ⟨y.id.toArray⟩,.string ⟨y.inst.toArray⟩,.int .i64 y.acq,.int .i64 y.opn,.string ⟨y.q.toArray⟩,.string ⟨y.c.toArray⟩,.string ⟨y.u.toArray⟩] 54))
    have HL1:=hdz (Znq (y:=y) (show BlkB ((wr.alloc (.cells #[.string ⟨y.id.toArray⟩,.string ⟨y.inst.toArray⟩,.int .i64 y.acq,.int .i64 y.opn,.string ⟨y.q.toArray⟩,.string ⟨y.c.toArray⟩,.string ⟨y.u.toArray⟩] 54)).alloc (.cells #[.string ⟨y.id.toArray⟩,.string ⟨y.inst.toArray⟩,.int .i64 y.acq,.int .i64 y.opn,.string ⟨y.q.toArray⟩,.string ⟨y.c.toArray⟩,.string ⟨y.u.toArray⟩] 54)) (wr.alloc (.cells #[.string ⟨y.id.toArray⟩,.string ⟨y.inst.toArray⟩,.int .i64 y.acq,.int .i64 y.opn,.string ⟨y.q.toArray⟩,.string ⟨y.c.toArray⟩,.string ⟨y.u.toArray⟩] 54)).heap.size (lotC7 y) 54 from heap_alloc_new (wr.alloc (.cells #[.string ⟨y.id.toArray⟩,.string ⟨y.inst.toArray⟩,.int .i64 y.acq,.int .i64 y.opn,.string ⟨y.q.toArray⟩,.string ⟨y.c.toArray⟩,.string ⟨y.u.toArray⟩] 54)) _))
    rw[show(wr.alloc (.cells #[.string ⟨y.id.toArray⟩,.string ⟨y.inst.toArray⟩,.int .i64 y.acq,.int .i64 y.opn,.string ⟨y.q.toArray⟩,.string ⟨y.c.toArray⟩,.string ⟨y.u.toArray⟩] 54)).heap.size=wr.heap.size+1 by simp] at HL1
    have HLK:=hdz (show(keptL v.m x.m 0 (ls.take k)).length+1≤100000000000 from Nat.le_trans (Nat.succ_le_succ (Zep v.m x.m 0 (ls.take k))) (by rw[List.length_take];omega))
    generalize hkl:keptL v.m x.m 0 (ls.take k)=kl at*
    have HKL:=hdz hkl
    clear hkl
    go_wp2_with (at_builtin;refine Zap _ rfl (.tmp 36) (.tmp 38) _ rfl Zb0 Zah ZbC (base:=W1.heap.size) (.slice A1 _ c1) kl rfl HO2.out _ _ 1 1 [y] rfl HL1.out HLK.out HA2.out.size ?_
                 intro A2 c2 w2 ho2 hg2 _)
    go_roundw
    case rel=>
     have hl:(keptL v.m x.m 0 (ls.take (k+1))).length=kl.length+1:=by rw[HK2.out];simp
     exact⟨k+1,at_,A2,c2,by omega,by go_num,rfl,by rw[hl],(show _→_ from fun h=>by rw[HCP.out];exact HAT.out h),(show Own _ _ _ _ _ _ _ by rw[hl,HK2.out];exact ho2),Zae HA2.out hg2 HA2.out.size (fun g hg=>Zl5 HO2.out hg)⟩
    case measure=>simp[intOf];omega
  ·obtain rfl:k=n:=by omega
   have HTA:=hdz (show ls.take k=ls from List.take_of_length_le (by rw[HLE.out];exact Nat.le_refl _))
   go_wp2
   rw[HPO.out]
   have ho:=HOW.out
   have hwl:w.heap.size≤W1.heap.size:=by have:=HSZ.out;omega
   rw[HTA.out] at ho ⊢
   refine⟨A1,c1,?_,ho.base_ hwl,HBW.out.trans (HBR.out.mono hwl)⟩
   rfl
end
section
open Go.RowKit Go.Shelf
theorem ZdF{l a:List Lot}{l':List Lot}(z:Lot)(h:openAll l a=some l'):openAll l (a++[z])=if(openL l' z).2≠0 then none else some (openL l' z).1:=by
 induction a generalizing l with
 |nil=>
  have e:l=l':=by simpa[openAll] using h
  subst e
  simp only[List.nil_append,openAll]
 |cons y a ih=>
  rw[List.cons_append]
  unfold openAll at h ⊢
  split at h
  ·cases h
  ·rename_i h0
   rw[if_neg h0]
   exact ih h
theorem Zge{l a:List Lot}(b:List Lot)(h:openAll l a=none):openAll l (a++b)=none:=by
 induction a generalizing l with
 |nil=>simp[openAll] at h
 |cons y a ih=>
  rw[List.cons_append]
  unfold openAll at h ⊢
  split at h
  ·rename_i h0;rw[if_pos h0]
  ·rename_i h0;rw[if_neg h0];exact ih h
theorem Zk9{l:List Lot}{z y:Lot}(h:y∈putL l z):y∈l∨y=z:=by
 unfold putL at h
 rcases List.mem_append.1 h with h|h
 ·exact .inl (List.mem_of_mem_take h)
 ·rcases List.mem_cons.1 h with h|h
  ·exact .inr h
  ·exact .inl (List.mem_of_mem_drop h)
structure OpA (kept pre l:List Lot):Prop where
 o:openAll kept pre=some l
 len:l.length≤1000
 sz:∀y∈l,y.Sz 50000
theorem OpA.next{kept pre l:List Lot}{z:Lot}(h:OpA kept pre l)(hz:z.Sz 50000)(h0:(openL l z).2=0):OpA kept (pre++[z]) (openL l z).1:=by
 have e:openL l z=(putL l z,0)∧l.length<1000:=by
  unfold openL at h0 ⊢
  split at h0
  ·cases h0
  ·rename_i h1
   rw[if_neg h1]
   split at h0
   ·rename_i h2;exact absurd h0 h2
   ·rename_i h2
    rw[if_neg h2]
    split at h0
    ·cases h0
    ·rename_i h3
     rw[if_neg h3]
     split at h0
     ·cases h0
     ·rename_i h4
      rw[if_neg h4]
      exact⟨rfl,by omega⟩
 refine⟨by rw[ZdF z h.o,if_neg (by rw[h0];exact fun h=>h rfl)],?_,?_⟩
 ·rw[e.1]
  show(putL l z).length≤1000
  unfold putL
  have:=Zk1 l z.inst
  simp
  omega
 ·intro y hy
  rw[e.1] at hy
  rcases Zk9 hy with hy|rfl
  ·exact h.sz y hy
  ·exact hz
theorem PlK.sz{K:Nat}{x:Plan}(h:PlK K x):PlSz2 (K+1) x:=
 ⟨⟨fun i=>Zab (h.n i),fun i=>Zab (h.m i),fun i=>Zab (h.f i),fun i=>Zab (h.p i)⟩,fun i=>Zab (h.mv i),fun i=>Zab (h.rest i)⟩
theorem Zl6{d:Int}(h:dayB d=true): -9223372036854775808≤d∧d≤9223372036854775807:=by
 unfold dayB at h
 simp at h
 omega
theorem ZjB{s:List UInt8}(h:nameB s=true):s.length≤16:=by
 unfold nameB at h
 simp at h
 omega
theorem ZmE{m:Mp}{x:Plan}{len i K:Nat}{y:Lot}(h:PlK K x)(hc:m.cause.length≤16)(ho:m.other.length≤16)(hy:y.Ok)(hK:K≤1000)(hi:i≤1000000):(newL m x len i y).Sz 50000:=by
 have a:=Zl6 hy.acq;have b:=Zl6 hy.opn
 have hcn:=Zjw x.n i
 have hd:=ZbU (m:=cntN x.n i+1) (L:=7) (by omega)
 have hq:=Zab (h.n i)
 have hcost:(txtL (x.mv i+if cntN x.n i=0 then x.rest len else 0)).length≤K+2:=by
  refine Zab (L:=K+1) ?_
  have h1:=h.mv i;have h2:=h.rest len
  rw[Nat.pow_succ]
  have h3:0<10^K:=Nat.pow_pos (by omega)
  generalize 10^K=P at*
  split<;>omega
 refine⟨?_,?_,?_,?_,?_,a.1,a.2,b.1,b.2⟩
 ·show(newId m.cause (cntN x.n i+1)).length≤_
  unfold newId
  rw[List.length_append,List.length_cons]
  omega
 ·show m.other.length≤_;omega
 ·show(txtL (x.n.getD i 0)).length≤_;omega
 ·show(txtL (x.mv i+if cntN x.n i=0 then x.rest len else 0)).length≤_;omega
 ·show(txtL (x.n.getD i 0)).length≤_;omega
theorem Zla{m:Mp}{ms:List Int}{K:Nat}(hm:∀i,(ms.getD i 0).natAbs<10^K)(hK:K≤1000)(k:Nat)(l:List Lot)(h:∀y∈l,y.Sz 50000∧y.c.length≤K):∀z∈keptL m ms k l,z.Sz 50000:=by
 induction l generalizing k with
 |nil=>intro z hz;simp[keptL] at hz
 |cons a l ih=>
  intro z hz
  have ha:=h a (by simp)
  have ht:=fun k=>ih k (fun y hy=>h y (by simp[hy]))
  unfold keptL at hz
  split at hz
  ·split at hz
   ·rcases List.mem_cons.1 hz with rfl|hz
    ·have hc:=Zab (Zcm (Zai ha.2) (hm k))
     exact⟨ha.1.id,ha.1.inst,ha.1.q,by show(txtL _).length≤_;omega,ha.1.u,ha.1.a1,ha.1.a2,ha.1.o1,ha.1.o2⟩
    ·exact ht _ z hz
   ·exact ht _ z hz
  ·rcases List.mem_cons.1 hz with rfl|hz
   ·exact ha.1
   ·exact ht _ z hz
theorem Zip{m:Mp}{x:Plan}{old:List Lot}{z:Nat×Lot}(h:z∈freshL m x old):∃y,old[z.1]?=some y∧z.2=newL m x old.length z.1 y:=by
 unfold freshL freshTo at h
 obtain⟨i,_,hi⟩:=List.mem_filterMap.1 h
 cases ho:old[i]? with
 |none=>rw[ho] at hi;cases hi
 |some y=>
  rw[ho] at hi
  by_cases h0:x.n.getD i 0=0
  ·simp only[if_pos h0] at hi;cases hi
  ·simp only[if_neg h0,Option.some.injEq] at hi
   subst hi
   exact⟨y,ho,rfl⟩
theorem Zlb{ls:List Lot}{m:Mp}(h:allC ls≠0∨mpC m≠0):mapL ls m=(Res.none,1):=by unfold mapL;rw[if_pos h]
theorem ZjC{ls:List Lot}{m:Mp}(h1:allC ls=0)(h2:mpC m=0)(ho:lotsOf ls m.inst=[]):mapL ls m=(⟨ls,[],[]⟩,0):=by
 unfold mapL
 rw[if_neg (show ¬(allC ls≠0∨mpC m≠0) from fun h=>h.elim (fun h=>h h1) (fun h=>h h2))]
 simp only
 rw[if_pos ho]
theorem Ziq{ls:List Lot}{m:Mp}(h1:allC ls=0)(h2:mpC m=0)(ho:lotsOf ls m.inst≠[]){z:Nat×Lot}(hz:z∈freshL m (planL (lotsOf ls m.inst) m) (lotsOf ls m.inst))(hid:z.2.id∈ls.map (·.id)):mapL ls m=(Res.none,5):=by
 unfold mapL
 rw[if_neg (show ¬(allC ls≠0∨mpC m≠0) from fun h=>h.elim (fun h=>h h1) (fun h=>h h2))]
 simp only
 rw[if_neg ho,if_pos]
 rw[List.any_eq_true]
 exact⟨z.2,List.mem_map.2 ⟨z,hz,rfl⟩,by simpa using hid⟩
theorem ZmF{ls:List Lot}{m:Mp}(h1:allC ls=0)(h2:mpC m=0)(ho:lotsOf ls m.inst≠[])(hz:∀z∈freshL m (planL (lotsOf ls m.inst) m) (lotsOf ls m.inst),z.2.id ∉ ls.map (·.id)):
 mapL ls m=match openAll (keptL m (planL (lotsOf ls m.inst) m).m 0 ls) ((freshL m (planL (lotsOf ls m.inst) m) (lotsOf ls m.inst)).map (·.2)) with
  |some l=>(⟨l,gainL m (planL (lotsOf ls m.inst) m) (lotsOf ls m.inst),stpL m (planL (lotsOf ls m.inst) m) (lotsOf ls m.inst)⟩,0)
  |none=>(Res.none,4):=by
 unfold mapL
 rw[if_neg (show ¬(allC ls≠0∨mpC m≠0) from fun h=>h.elim (fun h=>h h1) (fun h=>h h2))]
 simp only
 rw[if_neg ho,if_neg]
 ·rfl
 ·rw[List.any_eq_true]
  rintro⟨w,hw,hin⟩
  obtain⟨z,hz',rfl⟩:=List.mem_map.1 hw
  exact hz z hz' (by simpa using hin)
end
section
open Go.RowKit Go.Shelf
def F2(f:Fr):List Value:=[S f.n,S f.d]
theorem ZjD(f:Fr):(F2 f).length=2:=rfl
abbrev Frs(w:World)(B:Nat)(A:Option Addr)(n:Nat)(xs:List Fr):Prop:=Sl F2 2 w B A n xs
theorem Sl.fr{w:World}{B:Nat}{A:Option Addr}{n:Nat}{xs:List Fr}{i:Nat}(h:Frs w B A n xs)(hi:i<n):
 ∃b off x,A=some ⟨b,off,none⟩∧b<B∧xs[i]?=some x∧w.cell? ⟨b,off+i*2,none⟩=some (.string ⟨x.n.toArray⟩)∧w.cell? ⟨b,off+i*2+1,none⟩=some (.string ⟨x.d.toArray⟩):=by
 obtain⟨b,off,x,hA,hb,hx,hc⟩:=h.at_ hi
 exact⟨b,off,x,hA,hb,hx,hc 0 _ rfl,hc 1 _ rfl⟩
def idxF(p:Fr→Bool)(xs:List Fr):Int:=match xs.findIdx? p with|some i=>(i:Int)|none=> -1
theorem Zlc{p:Fr→Bool}{xs:List Fr}{j:Nat}{r:Fr}(h:xs[j]?=some r)(hr:p r=true)(hn:(xs.take j).any p=false):idxF p xs=j:=by
 unfold idxF
 have:xs.findIdx? p=some j:=by
  rw[List.findIdx?_eq_some_iff_getElem]
  obtain⟨hj,rfl⟩:=List.getElem?_eq_some_iff.1 h
  refine⟨hj,hr,fun i hi=> ?_⟩
  rw[List.any_eq_false] at hn
  have:=hn xs[i] (by rw[List.mem_take_iff_getElem];exact⟨i,by omega,rfl⟩)
  simpa using this
 rw[this]
theorem Zgf{p:Fr→Bool}{xs:List Fr}(hn:xs.any p=false):idxF p xs= -1:=by
 unfold idxF
 have:xs.findIdx? p=none:=by
  rw[List.findIdx?_eq_none_iff];intro x hx;rw[List.any_eq_false] at hn;simpa using hn x hx
 rw[this]
theorem ZgX(p:Fr→Bool)(xs:List Fr):decide (0≤idxF p xs)=xs.any p:=by
 cases h:xs.any p with
 |false=>rw[Zgf h];rfl
 |true=>
  rw[List.any_eq_true] at h
  obtain⟨x,hx,hp⟩:=h
  unfold idxF
  cases hf:xs.findIdx? p with
  |none=>rw[List.findIdx?_eq_none_iff] at hf;rw[hf x hx] at hp;cases hp
  |some i=>simp
theorem ZjE{p:Fr→Bool}{xs:List Fr}{j:Nat}{r:Fr}(h:xs[j]?=some r)(hn:(xs.take j).any p=false)(hr:p r=false):(xs.take (j+1)).any p=false:=by
 obtain⟨hj,rfl⟩:=List.getElem?_eq_some_iff.1 h
 rw[List.take_succ_eq_append_getElem hj,List.any_append,hn];simp[hr]
theorem Zir(g:Nat)(p:Fr→Bool)(A:Option Addr)(n c:Nat)(xs:List Fr)(w:World)(eg:∀args w,(callFunc g args).run Tryz.prog w=.ok (.enter g args) w)
 (hp:∀(W:World) (x:Fr),x∈xs→Below w.heap.size w W→Calls Tryz.prog g #[FrV x] W fun e w'=>e=.returned (.bool (p x))∧Below W.heap.size W w') (hr:Frs w w.heap.size A n xs) (hn:n≤1000000000):
 Calls Tryz.prog 107 #[.slice A n c,.func (.func g) #[] #[]] w fun e w'=>e=.returned (.int .i64 (idxF p xs))∧Below w.heap.size w w':=by
 have HPR:=hdz hp;have HR:=hdz hr
 clear hp hr
 go_enter Tryz.func107,Tryz.ntmps107
 go_wp2
 go_loopw [5,8] (fun _ i wr=>∃j:Nat,j≤n∧i=.int .i64 j∧Hid ((xs.take j).any p=false)∧Below w.heap.size w wr) (fun _ i _=>n-(intOf i).toNat)
 case atStart=>exact⟨0,Nat.zero_le _,rfl,by show _=_;simp,Below.refl _ _⟩
 case round=>
  obtain⟨j,hj,rfl,HN,hb⟩:=hrel
  by_cases hlt:j<n
  ·obtain⟨b,off,r,rfl,hbl,hxj,d0,d1⟩:=(HR.out.below hb).fr hlt
   have HX:=hdz hxj
   have hcall:=HPR.out wr r (List.mem_of_getElem? hxj) hb
   unfold FrV S at hcall
   clear hxj
   have HC:=hdz hcall;clear hcall
   cases hq:p r with
   |true=>
    rw[hq] at HC
    have HQ:=hdz hq;clear hq
    go_wp2_with (go_at_fn g;refine(HC.out).mono ?_;rintro e w' ⟨rfl,hb'⟩)
    go_ret
    exact⟨Zad (Zlc HX.out HQ.out HN.out).symm,hb.trans (hb'.mono hb.size)⟩
   |false=>
    rw[hq] at HC
    have HQ:=hdz hq;clear hq
    go_wp2_with (go_at_fn g;refine(HC.out).mono ?_;rintro e w' ⟨rfl,hb'⟩)
    go_roundw
    case rel=>exact⟨j+1,by omega,by go_num,ZjE HX.out HN.out HQ.out,hb.trans (hb'.mono hb.size)⟩
    case measure=>simp[intOf];omega
  ·go_wp2
   go_ret
   exact⟨Zad (Zgf (by have:=HN.out;rwa [List.take_of_length_le (by have:=HR.out.1;omega)] at this)).symm,hb⟩
theorem Zfw(g:Nat)(p:Fr→Bool)(A:Option Addr)(n c:Nat)(xs:List Fr)(w:World)(eg:∀args w,(callFunc g args).run Tryz.prog w=.ok (.enter g args) w)
 (hp:∀(W:World) (x:Fr),x∈xs→Below w.heap.size w W→Calls Tryz.prog g #[FrV x] W fun e w'=>e=.returned (.bool (p x))∧Below W.heap.size W w') (hr:Frs w w.heap.size A n xs) (hn:n≤1000000000):
 Calls Tryz.prog 53 #[.slice A n c,.func (.func g) #[] #[]] w fun e w'=>e=.returned (.bool (xs.any p))∧Below w.heap.size w w':=by
 have H:=hdz (Zir g p A n c xs w eg hp hr hn);clear hp eg hr
 have e:=ZgX p xs
 generalize idxF p xs=z at*
 have E:=hdz e;clear e
 go_enter Tryz.func53,Tryz.ntmps53
 go_wp2_with (go_at_call 107;refine(H.out).mono ?_;rintro e w' ⟨rfl,hb'⟩)
 go_ret
 exact⟨Zaf E.out,hb'⟩
end
section
open Go.RowKit Go.Shelf
theorem Zgg(b:UInt8):nameC b=true↔(97≤(b.toNat:Int)∧(b.toNat:Int)≤122)∨(48≤(b.toNat:Int)∧(b.toNat:Int)≤57)∨(b.toNat:Int)=95:=by
 unfold nameC
 simp only[Bool.or_eq_true,Bool.and_eq_true,decide_eq_true_eq,beq_iff_eq,UInt8.le_iff_toNat_le,←UInt8.toNat_inj]
 simp
 omega
theorem Zld(s:List UInt8)(w:World):∃cap W1,(convert 9 131 (.string ⟨s.toArray⟩)).run Tryz.prog w=.ok (.slice (some ⟨w.heap.size,0,none⟩) s.length cap) W1∧Below w.heap.size w W1∧W1.heap.size=w.heap.size+1∧∀(j:Nat) (b:UInt8),s[j]?=some b→W1.cell? ⟨w.heap.size,j,none⟩=some (.int .u8 (b.toNat:Int)):=by
 have h:=run_bytes_of_string (P:=Tryz.prog) w 9 131 5 ⟨s.toArray⟩ Tryz.underlying9 Tryz.underlying131 Tryz.underlying5
 have hsz:(⟨s.toArray⟩:ByteArray).size=s.length:=Zag s
 rw[hsz] at h
 generalize grownCap w s.length 0 5=cap at h
 refine⟨_,_,h,((Below.refl _ w).drew).alloc (Nat.le_refl _) _,by simp,fun j b hj=> ?_⟩
 have hb:=heap_alloc_new w.drew (.cells (bytesRow ⟨s.toArray⟩ cap) 5 ((bytesRow ⟨s.toArray⟩ cap).size,(bytesRow ⟨s.toArray⟩ cap).size+1))
 refine(cell_of_row _ w.heap.size j _ _ _ hb).trans ?_
 have hlt:=(List.getElem?_eq_some_iff.1 hj).1
 unfold bytesRow
 rw[Array.getElem?_append_left (by simpa using hlt),Array.getElem?_map]
 simp[hj]
theorem Zbd{s:List UInt8}{k:Nat}{b:UInt8}(h:s[k]?=some b)(ha:(s.take k).all nameC=true)(hb:nameC b=true):(s.take (k+1)).all nameC=true:=by
 obtain⟨hk,rfl⟩:=List.getElem?_eq_some_iff.1 h
 rw[List.take_succ_eq_append_getElem hk,List.all_append,ha]
 simp[hb]
theorem Zgh{s:List UInt8}{k:Nat}{b:UInt8}(h:s[k]?=some b)(hb:¬nameC b=true):nameB s=false:=by
 unfold nameB
 have:s.all nameC=false:=by
  rw[List.all_eq_false]
  exact⟨b,List.mem_of_getElem? h,hb⟩
 rw[this,Bool.and_false]
theorem Zbu(s:List UInt8):Gives 42 #[S s] (.bool (nameB s)):=by
 intro w hp
 have H:=hdz (Kp.start hp)
 have hsz:=Zag s
 clear hp
 rcases Nat.eq_zero_or_pos s.length with h0|h0
 ·obtain rfl:s=[]:=List.eq_nil_of_length_eq_zero h0
  have HB:=hdz (show nameB []=false by rfl)
  rw[HB.out]
  clear h0 hsz
  unfold S
  go_enter Tryz.func42,Tryz.ntmps42
  go_wp2_with fail
  first|go_ret|skip
  exact⟨rfl,H.out.bl⟩
 by_cases h1:16<s.length
 ·have HB:=hdz (show nameB s=false by unfold nameB;rw[decide_eq_false (show ¬s.length≤16 by omega)];simp)
  rw[HB.out]
  have HSZ:=hdz hsz
  have hs1:((s.length:Int)==0)=false:=beq_false_of_ne (by omega)
  have hs2:(16:Int)<(s.length:Int):=by omega
  clear hsz h0 h1
  unfold S
  go_enter Tryz.func42,Tryz.ntmps42
  go_wp2_with fail
  first|go_ret|skip
  exact⟨rfl,H.out.bl⟩
 obtain⟨cap,W1,hcv,hbW,hszW,hcell⟩:=Zld s w
 have HCE:=hdz hcell
 have H1:=hdz (H.out.here hbW)
 have HOK:=hdz (show s.all nameC=true→nameB s=true by
  intro ha
  unfold nameB
  rw[ha,decide_eq_true (show s.length≤16 by omega),decide_eq_true (show s≠[] by intro e;rw[e] at h0;simp at h0)]
  rfl)
 have hs1:((s.length:Int)==0)=false:=beq_false_of_ne (by omega)
 have hs2:¬(16:Int)<(s.length:Int):=by omega
 obtain⟨n,hn⟩:∃n,s.length=n:=⟨_,rfl⟩
 rw[hn] at hcv
 have hn16:n≤16:=by omega
 have HN:=hdz hn
 clear hcell hbW hszW hsz h0 h1 hn H
 unfold S
 go_enter Tryz.func42,Tryz.ntmps42
 go_wp2_with fail
 go_loop [16] (fun i=>∃k:Nat,k≤n∧i=.int .i64 k∧Hid ((s.take k).all nameC=true)) (fun i=>n-(intOf i).toNat)
 case atStart=>exact⟨0,Nat.zero_le _,rfl,by show _=_;simp⟩
 case round=>
  obtain⟨k,hk,rfl,HA⟩:=hrel
  by_cases hlt:k<n
  ·obtain⟨b,hb⟩:∃b,s[k]?=some b:=⟨_,List.getElem?_eq_getElem (by have:=HN.out;omega)⟩
   have d0:=HCE.out k b hb
   have HB:=hdz hb
   have HIF:=hdz (Zgg b)
   clear hb
   by_cases h95:(b.toNat:Int)=95
   ·have hx:((b.toNat:Int) !=95)=false:=by simp[h95]
    go_wp2
    all_goals
     go_round
     case rel=>exact⟨k+1,by omega,by go_num,Zbd HB.out HA.out (by rw[HIF.out];omega)⟩
     case measure=>simp[intOf];omega
   ·have hx:((b.toNat:Int) !=95)=true:=by simp[h95]
    go_wp2
    all_goals first
     |(go_round
       case rel=>exact⟨k+1,by omega,by go_num,Zbd HB.out HA.out (by rw[HIF.out];omega)⟩
       case measure=>simp[intOf];omega)
     |(go_ret
       exact⟨Zaf (Zgh HB.out (by rw[HIF.out];omega)).symm,H1.out.bl⟩)
  ·go_wp2
   go_ret
   exact⟨Zaf (HOK.out (by have:=HA.out;rwa [List.take_of_length_le (by have:=HN.out;omega)] at this)).symm,H1.out.bl⟩
theorem Ze2(d:Int)(_h1: -9223372036854775808≤d)(_h2:d≤9223372036854775807):Gives 132 #[.int .i64 d] (.bool (dayB d)):=by
 intro w hp
 have HB:=hdz (show dayB d=(decide (-25567≤d)&&decide (d≤84005)) from rfl)
 rw[HB.out]
 have H:=hdz (Kp.start hp)
 clear hp HB
 cases e1:decide (-25567≤d)<;>cases e2:decide (d≤84005)
 all_goals
  go_enter Tryz.func132,Tryz.ntmps132
  go_wp2_with fail
  first|go_ret|skip
  exact⟨rfl,H.out.bl⟩
theorem Zis(d:Int)(_h1: -9223372036854775808≤d)(_h2:d≤9223372036854775807):Gives 99 #[.int .i64 d] (.bool (dayB d)):=by
 intro w hp
 have HB:=hdz (show dayB d=(decide (-25567≤d)&&decide (d≤84005)) from rfl)
 rw[HB.out]
 have H:=hdz (Kp.start hp)
 clear hp HB
 cases e1:decide (-25567≤d)<;>cases e2:decide (d≤84005)
 all_goals
  go_enter Tryz.func99,Tryz.ntmps99
  go_wp2_with fail
  first|go_ret|skip
  exact⟨rfl,H.out.bl⟩
def wkd(d:Int):Int:=if dayB d=true then(d+3+28000)%7 else 0
theorem Zeq(d:Int)(h1: -9223372036854775808≤d)(h2:d≤9223372036854775807):Gives 41 #[.int .i64 d] (.tuple #[.int .i64 (wkd d),.int .i64 (if dayB d=true then 0 else 13)]):=by
 intro w hp
 have HV:=hdz (Zis d h1 h2)
 have HW:=hdz (show wkd d=if dayB d=true then(d+3+28000)%7 else 0 from rfl)
 have HD:=hdz (show dayB d=true→ -25567≤d∧d≤84005 by unfold dayB;simp)
 have H:=hdz (Kp.start hp)
 generalize wkd d=wd at*
 generalize dayB d=db at*
 clear hp
 cases db with
 |false=>
  rw[if_neg (by decide)] at HW ⊢
  rw[HW.out]
  go_enter Tryz.func41,Tryz.ntmps41
  go_wp2_with fail
  refine(HV.out _ H.out.pw).mono ?_
  rintro e w1 ⟨rfl,hb⟩
  go_wp2_with fail
  first|go_ret2|skip
  exact⟨rfl,(H.out.here hb).bl⟩
 |true=>
  rw[if_pos rfl] at HW ⊢
  rw[HW.out]
  obtain⟨a1,a2⟩:=HD.out rfl
  go_enter Tryz.func41,Tryz.ntmps41
  go_wp2_with fail
  refine(HV.out _ H.out.pw).mono ?_
  rintro e w1 ⟨rfl,hb⟩
  go_wp2_with fail
  first|go_ret2|skip
  exact⟨rfl,(H.out.here hb).bl⟩
end
section
open Go.RowKit Go.Shelf
theorem ZjF(l:List UInt8)(h:l.all isDig=true):∀acc:Nat,acc*10^l.length+valD l<1000000000000000000→Lib.parseUint10 acc l=.ok (acc*10^l.length+valD l):=by
 induction l with
 |nil=>intro acc _;simp[Lib.parseUint10,valD]
 |cons b l ih=>
  intro acc hb
  simp only[List.all_cons,Bool.and_eq_true] at h
  have h1:=(Zao b).1 h.1
  have e:valD (b::l)=(b.toNat-48)*10^l.length+valD l:=by
   have:=Zbg [b] l
   simpa[valD] using this
  rw[e,List.length_cons,Nat.pow_succ] at hb ⊢
  have hp:1≤10^l.length:=Nat.pow_pos (by omega)
  have e2:acc*(10^l.length*10)+((b.toNat-48)*10^l.length+valD l)=(acc*10+(b.toNat-48))*10^l.length+valD l:=by
   rw[Nat.add_mul,Nat.mul_assoc,Nat.mul_comm 10,Nat.add_assoc]
  rw[e2] at hb ⊢
  have h3:acc*10+(b.toNat-48)≤(acc*10+(b.toNat-48))*10^l.length:=Nat.le_mul_of_pos_right _ hp
  unfold Lib.parseUint10
  rw[if_pos (by omega),if_neg (by omega),if_neg (by omega)]
  exact ih h.2 _ hb
theorem Zle{l:List UInt8}(h:l.all isDig=true)(hn:l≠[])(h4:l.length≤17):Lib.atoiAll l=.ok (valD l:Int):=by
 cases l with
 |nil=>exact absurd rfl hn
 |cons b t=>
  have hb:=h
  simp only[List.all_cons,Bool.and_eq_true] at hb
  have h1:=(Zao b).1 hb.1
  rw[Lib.atoiAll_plain b t (by omega) (by omega)]
  unfold Lib.parseMag
  rw[if_neg (by simp)]
  have hv:=ZaT h
  have hp:10^(b::t).length≤10^17:=Nat.pow_le_pow_right (by omega) h4
  rw[ZjF _ h 0 (by omega)]
  simp only[Nat.zero_mul,Nat.zero_add]
  unfold Lib.signless
  simp only
  rw[if_neg (by omega)]
theorem ZjG{k:Nat}(h1:1≤k)(h2:k≤9999):numB (digs k)=true:=by
 unfold numB
 obtain⟨b,l,e,hb,_⟩:=ZcT k (by omega)
 have h3:=ZbU (m:=k) (L:=4) (by omega)
 have h4:=Zhn k (by omega)
 have h5:(some b:Option UInt8)≠some 48:=fun e2=>by
  injection e2 with e2
  subst e2
  exact absurd hb (by decide)
 rw[ZcS,decide_eq_true h3,decide_eq_true h4,e,List.head?_cons,decide_eq_true h5]
 rfl
theorem ZjH(l:List UInt8):numB l=match Lib.atoiAll l with| .ok v=>decide (1≤v)&&(decide (v≤9999)&&(Lib.itoa v==l))|_=>false:=by
 by_cases h:numB l=true
 ·have h':=h
  unfold numB at h'
  simp only[Bool.and_eq_true,decide_eq_true_eq] at h'
  obtain⟨⟨⟨a1,a2⟩,a3⟩,a4⟩:=h'
  have hne:l≠[]:=fun e=>by rw[e] at a1;simp at a1
  rw[h,Zle a4 hne (by omega)]
  have hd:digs (valD l)=l:=Zb7 a4 (fun b t e=>by
   rw[e] at a3
   simp only[List.head?_cons,ne_eq,Option.some.injEq] at a3
   simpa using a3)
  have hv:valD l<10^4:=Nat.lt_of_lt_of_le (ZaT a4) (Nat.pow_le_pow_right (by omega) a2)
  have h0:valD l≠0:=fun e=>by rw[e] at hd;exact hne hd.symm
  have hi:Lib.itoa (valD l:Int)=l:=by
   unfold Lib.itoa
   rw[if_neg (by omega)]
   conv=>rhs;rw[←hd]
   unfold digs
   rw[if_neg h0]
   simp
  simp only[hi,beq_self_eq_true,Bool.and_true]
  rw[decide_eq_true (show(1:Int)≤(valD l:Int) by omega),decide_eq_true (show(valD l:Int)≤9999 by omega)]
  rfl
 ·have hf:numB l=false:=by simpa using h
  rw[hf]
  rcases ha:Lib.atoiAll l with v|_|_
  ·simp only
   cases h1:decide (1≤v) with
   |false=>rfl
   |true=>
    cases h2:decide (v≤9999) with
    |false=>rfl
    |true=>
     cases h3:Lib.itoa v==l with
     |false=>rfl
     |true=>
      exfalso
      apply h
      have h3:=eq_of_beq h3
      simp only[decide_eq_true_eq] at h1 h2
      rw[←h3]
      unfold Lib.itoa
      rw[if_neg (by omega)]
      have:=ZjG (k:=v.toNat) (by omega) (by omega)
      unfold digs at this
      rw[if_neg (by omega)] at this
      simpa using this
  ·rfl
  ·rfl
def cutN(s:List UInt8):List UInt8:=s.takeWhile (·!=47)
def cutR(s:List UInt8):List UInt8:=(s.dropWhile (·!=47)).drop 1
theorem Zgi(s:List UInt8):(47∈s→Lib.indexByte s 47=((cutN s).length:Nat)∧(cutN s).length<s.length∧s.take (cutN s).length=cutN s∧s.drop ((cutN s).length+1)=cutR s)∧(47 ∉ s→Lib.indexByte s 47= -1∧cutN s=s∧cutR s=[]):=by
 induction s with
 |nil=>exact⟨fun h=>by simp at h,fun _=>⟨rfl,rfl,rfl⟩⟩
 |cons b l ih=>
  by_cases hb:b=47
  ·subst hb
   refine⟨fun _=> ?_,fun h=>absurd (List.mem_cons_self) h⟩
   refine⟨rfl,by simp[cutN],by simp[cutN],?_⟩
   simp[cutN,cutR]
  ·have e1:cutN (b::l)=b::cutN l:=by unfold cutN;rw[List.takeWhile_cons];simp[hb]
   have e2:cutR (b::l)=cutR l:=by unfold cutR;rw[List.dropWhile_cons];simp[hb]
   have hbb:(b==47)=false:=by simpa using hb
   constructor
   ·intro h
    have hl:47∈l:=by
     rcases List.mem_cons.1 h with e|h
     ·exact absurd e.symm hb
     ·exact h
    obtain⟨a1,a2,a3,a4⟩:=ih.1 hl
    refine⟨?_,?_,?_,?_⟩
    ·rw[Lib.indexByte,hbb,a1,e1]
     simp only[Bool.false_eq_true,if_false]
     rw[if_neg (by simp)]
     simp
    ·rw[e1];simp;omega
    ·rw[e1];simp[a3]
    ·rw[e1,e2];simpa using a4
   ·intro h
    have hl:47 ∉ l:=fun hm=>h (List.mem_cons_of_mem b hm)
    obtain⟨a1,a2,a3⟩:=ih.2 hl
    refine⟨?_,by rw[e1,a2],by rw[e2,a3]⟩
    rw[Lib.indexByte,hbb,a1]
    rfl
theorem Zl7(s:List UInt8):idB s=(numB (cutR s)&&nameB (cutN s)):=by
 unfold idB
 by_cases h:47∈s
 ·rw[decide_eq_true h,Bool.true_and,Bool.and_comm];rfl
 ·rw[decide_eq_false h]
  have e:cutR s=[]:=((Zgi s).2 h).2.2
  rw[e]
  rfl
end
end Go.Proofs.YtpnncoinlopndaaGreatDoor
