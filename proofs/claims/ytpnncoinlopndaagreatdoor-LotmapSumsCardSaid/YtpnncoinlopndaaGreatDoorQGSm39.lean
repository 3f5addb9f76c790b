/- Gn. -/
import Derived.Test.YtpnncoinlopndaaGreatDoorQGSm14
set_option maxRecDepth 100000
set_option maxHeartbeats 8000000
namespace Go.Proofs.YtpnncoinlopndaaGreatDoor
open Go.Lib renaming hid→hdz
section
open Go.RowKit Go.Shelf
attribute [local go_sem ↓] Go.wp_at_zero Go.wp_at_succ Zce
theorem Zks(q:Rat):(cmpR q 0==0)=decide (q=0):=by
 unfold cmpR
 by_cases h1:q<0
 ·have:q≠0:=fun e=>by rw[e] at h1;exact Rat.lt_irrefl h1
  simp[h1,this]
 ·rw[if_neg h1]
  by_cases h2:0<q
  ·have:q≠0:=fun e=>by rw[e] at h2;exact Rat.lt_irrefl h2
   simp[h2,this]
  ·have h1':=Rat.not_lt.1 h1;have h2':=Rat.not_lt.1 h2
   have:q=0:=Rat.le_antisymm h2' h1'
   simp[this]
def gainC(g:Gain):Array Value:=#[.string ⟨g.cause.toArray⟩,.string ⟨g.lot.toArray⟩,.string ⟨g.inst.toArray⟩,.int .i64 g.acq,.int .i64 g.closed,.string ⟨g.q.toArray⟩,.string ⟨g.proceeds.toArray⟩,.string ⟨g.cost.toArray⟩,.string ⟨g.deferred.toArray⟩,.string ⟨g.replaced.toArray⟩]
theorem ZlT(g:Gain):(gainC g).toList=[g].flatMap G10:=rfl
theorem Zkt{W:World}{base g:Nat}{u:Value}{xs:List Gain}(h:Own G10 10 57 W base u xs)(hg:u.ownBlock=some g):base≤g∧g<W.heap.size:=by
 obtain⟨A,c,rfl,_,_,_,h5⟩:=h.form
 exact(h5 g hg).2
theorem Zku(v:PlV)(x:Plan)(old:List Lot)(pn pm pf pp n₀:Nat)(w:World)(hp:Env w)(hM:PlM w n₀ v x old pn pm pf pp)(hn₀:n₀≤w.heap.size)(hz:(frOf x.part).Sz 20000)(hn:old.length≤1000):
 Calls Tryz.prog 30 #[.agg (plA v).toArray] w (RetOwn G10 10 57 w.heap.size w (gainL v.m x old)):=by
 rw[Zbt]
 have HB:=hdz (show BlkB (w.alloc (.cells (plB v) 60)) w.heap.size (plB v) 60 from heap_alloc_new w _)
 have HBW:=hdz ((Below.refl w.heap.size w).alloc (Nat.le_refl _) (.cells (plB v) 60))
 have HSZ:=hdz (show(w.alloc (.cells (plB v) 60)).heap.size=w.heap.size+1 by simp)
 have hp1:=hdz (hp.here HBW.out)
 have HM:=hdz (hM.below (HBW.out.mono hn₀))
 have HSG:=hdz (Zbn (frOf x.part) hz (w.alloc (.cells (plB v) 60)) hp1.out)
 rw[Zac] at HSG
 have HSZ0:=hdz (Zks x.part)
 have hnl:v.on≤1000:=by rw[hM.len];exact hn
 obtain⟨N,hN⟩:∃N,N=v.on:=⟨_,rfl⟩
 have HNN:=hdz hN
 have HLN:=hdz (show N=old.length by rw[hN];exact hM.len)
 have E0:=hdz (show(plB v)[0]?=some (.string ⟨v.m.cause.toArray⟩) from rfl)
 have E1:=hdz (show(plB v)[1]?=some (.int .i64 v.m.day) from rfl)
 have E3:=hdz (show(plB v)[3]?=some (.string ⟨v.m.other.toArray⟩) from rfl)
 have E11:=hdz (show(plB v)[11]?=some (.slice v.oA N v.oc) by rw[hN];rfl)
 have E13:=hdz (show(plB v)[13]?=some (.string ⟨(frOf x.part).n.toArray⟩) by rw[←hM.part];rfl)
 have E14:=hdz (show(plB v)[14]?=some (.string ⟨(frOf x.part).d.toArray⟩) by rw[←hM.part];rfl)
 have E17:=hdz (show(plB v)[17]?=some (.slice (some ⟨pf,0,none⟩) N N) by rw[hN,←hM.ef];rfl)
 have E18:=hdz (show(plB v)[18]?=some (.slice (some ⟨pp,0,none⟩) N N) by rw[hN,←hM.ep];rfl)
 have HPO:=hdz (show RetOwn G10 10 57 w.heap.size w (gainL v.m x old)=fun e w'=>∃A c,e=.returned (.slice A (gainL v.m x old).length c)∧Own G10 10 57 w' w.heap.size (.slice A (gainL v.m x old).length c) (gainL v.m x old)∧Below w.heap.size w w' from rfl)
 have HGL:=hdz (show gainL v.m x old=if x.part=0 then[] else gainTo v.m x old old.length from rfl)
 generalize RetOwn G10 10 57 w.heap.size w (gainL v.m x old)=post at*
 generalize gainL v.m x old=gl at*
 generalize plB v=pb at*
 have hnl2:N≤1000:=by rw[hN];exact hnl
 generalize hoA:v.oA=oA at*
 generalize v.oc=oc at*
 have HOA:=hdz hoA
 have HNW:=hdz hn₀
 have c11:=HB.out.cell 11 E11.out
 have c13:=HB.out.cell 13 E13.out
 have c14:=HB.out.cell 14 E14.out
 generalize frOf x.part=fpt at*
 generalize cmpR x.part 0=sg at*
 clear hp hM hz hn hn₀ hN hnl hoA
 unfold FrV S at HSG
 go_enter Tryz.func30,Tryz.ntmps30
 go_wp2_with fail
 generalize w.alloc (.cells pb 60)=W1 at*
 refine HSG.out.mono ?_
 rintro e w1 ⟨rfl,hb⟩
 by_cases h0:x.part=0
 ·have hs0:(sg==0)=true:=by rw[HSZ0.out];simp[h0]
  rw[if_pos h0] at HGL
  clear h0
  go_wp2_with fail
  first|go_ret|skip
  rw[HPO.out,HGL.out]
  exact⟨none,0,rfl,Own.nil,HBW.out.trans (hb.mono HBW.out.size)⟩
 ·have hs0:(sg==0)=false:=by rw[HSZ0.out];simp[h0]
  rw[if_neg h0] at HGL
  clear h0
  have HB1:=hdz hb
  have HBB:=hdz (HB.out.here hb)
  clear hb c11 c13 c14
  have c11:=HBB.out.cell 11 E11.out
  go_wp2_with fail
  go_loopw [3,4,5,13] (fun s _ _ j wr=>∃(k:Nat) (A1:Option Addr) (c1:Nat),k≤N∧j=.int .i64 k∧s=.slice A1 (gainTo v.m x old k).length c1∧Hid (Own G10 10 57 wr W1.heap.size (.slice A1 (gainTo v.m x old k).length c1) (gainTo v.m x old k))∧Hid (Below W1.heap.size W1 wr)) (fun _ _ _ j _=>N-(intOf j).toNat)
  case atStart=>exact⟨0,none,0,Nat.zero_le _,rfl,rfl,Own.nil,HB1.out⟩
  case round=>
   clear c11
   obtain⟨k,A1,c1,hk,rfl,rfl,HOW,HBR⟩:=hrel
   have HBX:=hdz (show BlkB wr w.heap.size pb 60 from(HBR.out.block _ HB.out.lt).trans HB.out)
   have hnw:n₀≤W1.heap.size:=by have:=HNW.out;have:=HSZ.out;omega
   by_cases hlt:k<N
   ·have hLT:Lots wr n₀ oA N old:=by rw[HNN.out,←HOA.out];exact(HM.out.below (HBR.out.mono hnw)).lots
    obtain⟨b,off,y,hAe,hb,hy,d0,d1,d2,d3,d4,d5,d6⟩:=hLT.lot7 hlt
    subst hAe
    have HGS:=hdz (Zg1 v.m x old k)
    rw[hy] at HGS
    have HGK:=hdz (Ziz v.m x old k)
    clear hy hLT
    have c17:=HBX.out.cell 17 E17.out
    have c18:=HBX.out.cell 18 E18.out
    have HPM:=hdz (show ∀X,Below W1.heap.size W1 X→X.cell? ⟨pp,k,none⟩=some (.string ⟨(txtL (x.p.getD k 0)).toArray⟩)∧X.cell? ⟨pf,k,none⟩=some (.string ⟨(txtL (x.f.getD k 0)).toArray⟩) from fun X hX=>
     ⟨(HM.out.below (hX.mono hnw)).bp.cell k (by rw[←HNN.out,Zaq _ _ _ _ hlt,if_pos hlt]),(HM.out.below (hX.mono hnw)).bf.cell k (by rw[←HNN.out,Zaq _ _ _ _ hlt,if_pos hlt])⟩)
    have hpl:pp<W1.heap.size∧pf<W1.heap.size:=⟨HM.out.bp.lt,HM.out.bf.lt⟩
    obtain⟨ppk,pfk⟩:=HPM.out wr HBR.out
    have hwr:=HBR.out.size
    have hwl:w.heap.size<wr.heap.size:=HBX.out.lt
    have nb:w.heap.size≠wr.heap.size:=by omega
    have np:pp≠wr.heap.size:=by omega
    have nf:pf≠wr.heap.size:=by omega
    have lp:pp<wr.heap.size:=by omega
    have lf:pf<wr.heap.size:=by omega
    have i1:(0:Int)≤(k:Int):=by omega
    have i2:(k:Int)<(N:Int):=by omega
    have HA1:=hdz (HBR.out.alloc HBR.out.size (.cells #[.string ⟨y.id.toArray⟩,.string ⟨y.inst.toArray⟩,.int .i64 y.acq,.int .i64 y.opn,.string ⟨y.q.toArray⟩,.string ⟨y.c.toArray⟩,.string ⟨y.u.toArray⟩] 54))
    have HO1:=hdz (HOW.out.alloc (.cells #[.string ⟨y.id.toArray⟩,.string ⟨y.inst.toArray⟩,.int .i64 y.acq,.int .i64 y.opn,.string ⟨y.q.toArray⟩,.string ⟨y.c.toArray⟩,.string ⟨y.u.toArray⟩] 54))
    have HYB:=hdz (heap_alloc_new wr (.cells #[.string ⟨y.id.toArray⟩,.string ⟨y.inst.toArray⟩,.int .i64 y.acq,.int .i64 y.opn,.string ⟨y.q.toArray⟩,.string ⟨y.c.toArray⟩,.string ⟨y.u.toArray⟩] 54))
    clear hwr hpl
    by_cases hno:x.p.getD k 0=0∧x.f.getD k 0=0
    ·have HG2:=hdz (show gainTo v.m x old (k+1)=gainTo v.m x old k by rw[HGS.out];simp only[if_pos hno,List.append_nil])
     have hp1:(txtL (x.p.getD k 0)==[])=true:=by rw[ZbD];exact decide_eq_true hno.1
     have hp2:(txtL (x.p.getD k 0)).isEmpty=true:=by rw[Zb4];exact hp1
     have hf1:(txtL (x.f.getD k 0)==[])=true:=by rw[ZbD];exact decide_eq_true hno.2
     have hf2:(txtL (x.f.getD k 0)).isEmpty=true:=by rw[Zb4];exact hf1
     generalize txtL (x.p.getD k 0)=tp at*
     generalize txtL (x.f.getD k 0)=tf at*
     clear hno
     go_wp2
     go_roundw
     case rel=>exact⟨k+1,A1,c1,by omega,by go_num,by rw[HG2.out],(show Own _ _ _ _ _ _ _ by rw[HG2.out];exact HO1.out),HA1⟩
     case measure=>simp[intOf];omega
    ·obtain⟨g,hg⟩:∃g:Gain,g={cause:=v.m.cause,lot:=y.id,inst:=v.m.other,acq:=y.acq,closed:=v.m.day,q:=[],proceeds:=txtL (x.p.getD k 0),cost:=txtL (x.f.getD k 0),deferred:=[],replaced:=[]}:=⟨_,rfl⟩
     have HG2:=hdz (show gainTo v.m x old (k+1)=gainTo v.m x old k++[g] by rw[HGS.out,hg];simp only[if_neg hno])
     have HGC:=hdz (show gainC g=#[.string ⟨v.m.cause.toArray⟩,.string ⟨y.id.toArray⟩,.string ⟨v.m.other.toArray⟩,.int .i64 y.acq,.int .i64 v.m.day,.string ⟨#[]⟩,.string ⟨(txtL (x.p.getD k 0)).toArray⟩,.string ⟨(txtL (x.f.getD k 0)).toArray⟩,.string ⟨#[]⟩,.string ⟨#[]⟩] by rw[hg];rfl)
     have HSS:=hdz (show ∀X,Below W1.heap.size W1 X→BlkB X wr.heap.size #[.string ⟨y.id.toArray⟩,.string ⟨y.inst.toArray⟩,.int .i64 y.acq,.int .i64 y.opn,.string ⟨y.q.toArray⟩,.string ⟨y.c.toArray⟩,.string ⟨y.u.toArray⟩] 54→
      X.cell? ⟨w.heap.size,0,none⟩=some (.string ⟨v.m.cause.toArray⟩)∧X.cell? ⟨w.heap.size,1,none⟩=some (.int .i64 v.m.day)∧X.cell? ⟨w.heap.size,3,none⟩=some (.string ⟨v.m.other.toArray⟩)∧X.cell? ⟨w.heap.size,17,none⟩=some (.slice (some ⟨pf,0,none⟩) N N)∧X.cell? ⟨w.heap.size,18,none⟩=some (.slice (some ⟨pp,0,none⟩) N N)∧
      X.cell? ⟨pp,k,none⟩=some (.string ⟨(txtL (x.p.getD k 0)).toArray⟩)∧X.cell? ⟨pf,k,none⟩=some (.string ⟨(txtL (x.f.getD k 0)).toArray⟩)∧X.cell? ⟨wr.heap.size,0,none⟩=some (.string ⟨y.id.toArray⟩)∧X.cell? ⟨wr.heap.size,2,none⟩=some (.int .i64 y.acq) from fun X hX hq=>
        ⟨BlkB.cell ((hX.block _ HB.out.lt).trans HB.out) 0 E0.out,BlkB.cell ((hX.block _ HB.out.lt).trans HB.out) 1 E1.out,BlkB.cell ((hX.block _ HB.out.lt).trans HB.out) 3 E3.out,BlkB.cell ((hX.block _ HB.out.lt).trans HB.out) 17 E17.out,BlkB.cell ((hX.block _ HB.out.lt).trans HB.out) 18 E18.out,(HPM.out X hX).1,(HPM.out X hX).2,hq.cell 0 rfl,hq.cell 2 rfl⟩)
     have hcase:(txtL (x.p.getD k 0)==[])=false∨((txtL (x.p.getD k 0)==[])=true∧(txtL (x.f.getD k 0)==[])=false):=by
      rw[ZbD,ZbD]
      by_cases h1:x.p.getD k 0=0
      ·exact .inr ⟨decide_eq_true h1,decide_eq_false (fun h2=>hno ⟨h1,h2⟩)⟩
      ·exact .inl (decide_eq_false h1)
     have HL:=hdz (show(gainTo v.m x old k).length≤1000 by have:=HGK.out;omega)
     generalize gainTo v.m x old k=gk at*
     generalize txtL (x.p.getD k 0)=tp at*
     generalize txtL (x.f.getD k 0)=tf at*
     clear hno hg HGS HGK HPM
     have HNB:=hdz nb
     have HO0:=hdz HOW.out
     have HO1':Own G10 10 57 wr W1.heap.size (.slice A1 gk.length c1) gk:=HOW.out
     have HX1:=hdz HO1'
     clear HO1' HO0
     rcases hcase with hp1|⟨hp1,hf1⟩
     all_goals
      first
       |have hp2:tp.isEmpty=false:=by rw[Zb4];exact hp1
       |(have hp2:tp.isEmpty=true:=by rw[Zb4];exact hp1
         have hf2:tf.isEmpty=false:=by rw[Zb4];exact hf1)
      go_wp2
      generalize wr.alloc _=Wy at*
      have hq1:BlkB Wy.drew wr.heap.size #[.string ⟨y.id.toArray⟩,.string ⟨y.inst.toArray⟩,.int .i64 y.acq,.int .i64 y.opn,.string ⟨y.q.toArray⟩,.string ⟨y.c.toArray⟩,.string ⟨y.u.toArray⟩] 54:=HYB.out
      have hb1:Below W1.heap.size W1 Wy.drew:=HA1.out.drew
      have hq2:BlkB (Wy.alloc (.cells #[.string ⟨v.m.cause.toArray⟩,.string ⟨y.id.toArray⟩,.string ⟨v.m.other.toArray⟩,.int .i64 y.acq,.int .i64 v.m.day,.string ⟨#[]⟩,.string ⟨tp.toArray⟩,.string ⟨tf.toArray⟩,.string ⟨#[]⟩,.string ⟨#[]⟩] 57)).drew wr.heap.size #[.string ⟨y.id.toArray⟩,.string ⟨y.inst.toArray⟩,.int .i64 y.acq,.int .i64 y.opn,.string ⟨y.q.toArray⟩,.string ⟨y.c.toArray⟩,.string ⟨y.u.toArray⟩] 54:=BlkB.alloc HYB.out _
      have hb2:Below W1.heap.size W1 (Wy.alloc (.cells #[.string ⟨v.m.cause.toArray⟩,.string ⟨y.id.toArray⟩,.string ⟨v.m.other.toArray⟩,.int .i64 y.acq,.int .i64 v.m.day,.string ⟨#[]⟩,.string ⟨tp.toArray⟩,.string ⟨tf.toArray⟩,.string ⟨#[]⟩,.string ⟨#[]⟩] 57)).drew:=(HA1.out.alloc HA1.out.size _).drew
      have hown2:Own G10 10 57 (Wy.alloc (.cells #[.string ⟨v.m.cause.toArray⟩,.string ⟨y.id.toArray⟩,.string ⟨v.m.other.toArray⟩,.int .i64 y.acq,.int .i64 v.m.day,.string ⟨#[]⟩,.string ⟨tp.toArray⟩,.string ⟨tf.toArray⟩,.string ⟨#[]⟩,.string ⟨#[]⟩] 57)).drew W1.heap.size (.slice A1 gk.length c1) gk:=(HO1.out.alloc _).drew
      have hsl2:Gns (Wy.alloc (.cells #[.string ⟨v.m.cause.toArray⟩,.string ⟨y.id.toArray⟩,.string ⟨v.m.other.toArray⟩,.int .i64 y.acq,.int .i64 v.m.day,.string ⟨#[]⟩,.string ⟨tp.toArray⟩,.string ⟨tf.toArray⟩,.string ⟨#[]⟩,.string ⟨#[]⟩] 57)).drew (Wy.heap.size+1) (some ⟨Wy.heap.size,0,none⟩) 1 [g]:=by
       have h:=(Sl.lit (enc:=G10) (k:=10) Wy (gainC g) 57 [g] (ZlT g) Zfz).drew
       rw[HGC.out] at h
       exact h
      have HQ1:=hdz hq1;have HB1':=hdz hb1;have HQ2:=hdz hq2;have HB2:=hdz hb2;have HW2:=hdz hown2;have HS2:=hdz hsl2
      clear hq1 hb1 hq2 hb2 hown2 hsl2
      have hgl:gk.length+1≤100000000000:=by have:=HL.out;omega
      have HGE:=hdz hgl
      clear hgl c17 c18 ppk pfk
      go_region_held3 (fun X=>X.cell? ⟨w.heap.size,0,none⟩=some (.string ⟨v.m.cause.toArray⟩)∧X.cell? ⟨w.heap.size,1,none⟩=some (.int .i64 v.m.day)∧X.cell? ⟨w.heap.size,3,none⟩=some (.string ⟨v.m.other.toArray⟩)∧X.cell? ⟨w.heap.size,17,none⟩=some (.slice (some ⟨pf,0,none⟩) N N)∧X.cell? ⟨w.heap.size,18,none⟩=some (.slice (some ⟨pp,0,none⟩) N N)∧X.cell? ⟨pp,k,none⟩=some (.string ⟨tp.toArray⟩)∧X.cell? ⟨pf,k,none⟩=some (.string ⟨tf.toArray⟩)∧X.cell? ⟨wr.heap.size,0,none⟩=some (.string ⟨y.id.toArray⟩)∧X.cell? ⟨wr.heap.size,2,none⟩=some (.int .i64 y.acq))
       (first
         |with_reducible exact k2
         |with_reducible exact HSS.out _ HB1'.out HQ1.out
         |with_reducible exact HSS.out _ HB2.out HQ2.out
         |go_keep)
       ((refine Za9 _ (by rfl) (.tmp 32) (.tmp 57) _ (by rfl) ZjN Zfz Zli (.slice A1 gk.length c1) gk (by rfl) HW2.out _ _ 1 1 [g] (by rfl) HS2.out HGE.out HB2.out.size ?_
         intro A2 c2 w2 ho2 hg2 _
         have hb3:=Zae HB2.out hg2 HB2.out.size (fun g hg=>(Zkt HW2.out hg).1)
         have hq3:BlkB w2 wr.heap.size #[.string ⟨y.id.toArray⟩,.string ⟨y.inst.toArray⟩,.int .i64 y.acq,.int .i64 y.opn,.string ⟨y.q.toArray⟩,.string ⟨y.c.toArray⟩,.string ⟨y.u.toArray⟩] 54:=(hg2.block _ HQ2.out.lt (fun e=>by
          have:=(Zkt HX1.out e.symm).2
          omega)).trans HQ2.out
         have k2:=HSS.out w2 hb3 hq3))
      all_goals
       go_wp2_with fail
       go_roundw
       case rel=>
        have hl:(gainTo v.m x old (k+1)).length=gk.length+1:=by rw[HG2.out];simp
        exact⟨k+1,A2,c2,by omega,by go_num,by rw[hl],(show Own _ _ _ _ _ _ _ by rw[hl,HG2.out];exact ho2),hb3⟩
       case measure=>simp[intOf];omega
   ·obtain rfl:k=N:=by omega
    go_wp2_with fail
    first|go_ret|skip
    rw[HPO.out,HGL.out,←HLN.out]
    exact⟨A1,c1,rfl,HOW.out.base_ HBW.out.size,HBW.out.trans (HBR.out.mono HBW.out.size)⟩
end
end Go.Proofs.YtpnncoinlopndaaGreatDoor
