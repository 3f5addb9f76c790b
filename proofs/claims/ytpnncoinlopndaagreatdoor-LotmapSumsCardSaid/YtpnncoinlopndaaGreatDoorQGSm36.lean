/- Pt, Pt2. -/
import Derived.Test.YtpnncoinlopndaaGreatDoorQGSm26
set_option maxRecDepth 20000
set_option maxHeartbeats 4000000
namespace Go.Proofs.YtpnncoinlopndaaGreatDoor
open Go.Lib renaming hid→hdz
section
open Go.RowKit Go.Shelf
attribute [local go_sem ↓] Go.wp_at_zero Go.wp_at_succ
def PartsPost(q:Rat)(w:World)(e:Ending)(w':World):Prop:=e=.returned (.tuple #[S (txtL (flo q)),FrV (frOf (q-((flo q:Int):Rat))),.int .i64 0])∧Below w.heap.size w w'
theorem ZlP(q:List UInt8)(f:Fr)(w:World)(hp:Env w)(hq:q=txtL (val q))(hql:q.length≤200)(hf:f.ok)(hfz:f.Sz 200)(h0:0≤val q)(h1:0<f.rat):
 Calls Tryz.prog 16 #[S q,FrV f] w (PartsPost (((val q:Int):Rat)*f.rat) w):=by
 have HPO:=hdz (show PartsPost (((val q:Int):Rat)*f.rat) w=fun e w'=>e=.returned (.tuple #[S (txtL (flo (((val q:Int):Rat)*f.rat))),FrV (frOf (((val q:Int):Rat)*f.rat-((flo (((val q:Int):Rat)*f.rat):Int):Rat))),.int .i64 0])∧Below w.heap.size w w' from rfl)
 generalize PartsPost (((val q:Int):Rat)*f.rat) w=post at*
 have HIC:=hdz (Zaz q (by omega))
 rw[if_pos hq] at HIC
 have HFC:=hdz (fun W hW=>ZbI f W hW (hfz.more (by omega)))
 rw[show chkF f=0 from if_pos hf] at HFC
 have HCM:=hdz (fun W=>Zar q [] W (by omega) (by simp))
 rw[ZaD,Int.sub_zero] at HCM
 have hs0:decide (sgnI (val q)<0)=false:=by
  unfold sgnI
  rw[if_neg (by omega)]
  split<;>decide
 have HSG:=hdz (Zbn f (hfz.more (by omega)))
 have hs1:decide (cmpR f.rat 0≤0)=false:=by
  unfold cmpR
  rw[if_neg (Rat.not_lt.2 (Rat.le_of_lt h1)),if_pos h1]
  decide
 have hqv:=Zai hql
 have HOF:=hdz (fun W hW=>Zdo q W hW (by omega))
 have hz1:(frOf ((val q:Int):Rat)).Sz 201:=by rw[ZbZ];exact⟨Zab hqv,by simp⟩
 have HMU:=hdz (fun W hW=>ZcY (frOf ((val q:Int):Rat)) f W hW (hz1.more (by omega)) (hfz.more (by omega)))
 rw[Zac] at HMU
 have hz2:(frOf (((val q:Int):Rat)*f.rat)).Sz 1000:=by
  have:=Zam (Zi3 (hz1.more (show 201≤201 by omega)) (hfz.more (show 200≤201 by omega)) (by omega))
  rw[Zac] at this
  exact this.more (by omega)
 have HWH:=hdz (ZeY (frOf (((val q:Int):Rat)*f.rat)) (hz2.more (by omega)))
 rw[Zac] at HWH
 have H:=hdz (show Kp w [(w.heap.size+1,#[.string ⟨#[]⟩,.string ⟨#[]⟩],26),(w.heap.size,#[.string ⟨f.n.toArray⟩,.string ⟨f.d.toArray⟩],26)] ((w.alloc (.cells #[.string ⟨f.n.toArray⟩,.string ⟨f.d.toArray⟩] 26)).alloc (.cells #[.string ⟨#[]⟩,.string ⟨#[]⟩] 26)) from((Kp.start hp).new w.heap.size rfl _ _).new (w.heap.size+1) (by simp) _ _)
 generalize cmpR f.rat 0=z1 at*
 generalize sgnI (val q)=z0 at*
 generalize frOf (((val q:Int):Rat)*f.rat-((flo (((val q:Int):Rat)*f.rat):Int):Rat))=pt at*
 generalize txtL (flo (((val q:Int):Rat)*f.rat))=tn at*
 generalize frOf (((val q:Int):Rat)*f.rat)=fm at*
 generalize frOf ((val q:Int):Rat)=fq at*
 have hs0i:¬z0<0:=by simpa using hs0
 have hs1i:¬z1≤0:=by simpa using hs1
 clear hp hq hql hf hfz h0 h1 hqv hz1 hz2
 unfold FrV S at*
 go_enter Tryz.func16,Tryz.ntmps16
 go_wp2_with fail
 generalize ((w.alloc (.cells #[.string ⟨f.n.toArray⟩,.string ⟨f.d.toArray⟩] 26)).alloc (.cells #[.string ⟨#[]⟩,.string ⟨#[]⟩] 26))=W0 at*
 refine(HIC.out _ H.out.pw).mono ?_
 rintro e w1 ⟨rfl,hb1⟩
 have H1:=hdz (H.out.here hb1)
 clear hb1 H
 have x0:=H1.out.c 1 0 rfl rfl;have x1:=H1.out.c 1 1 rfl rfl
 go_wp2_with fail
 refine(HFC.out _ H1.out.po).mono ?_
 rintro e w2 ⟨rfl,hb2⟩
 have H2:=hdz (H1.out.here hb2)
 clear hb2 H1 x0 x1
 go_wp2_with fail
 refine(HCM.out _).mono ?_
 rintro e w3 ⟨rfl,hb3⟩
 have H3:=hdz (H2.out.here hb3)
 clear hb3 H2
 have x0:=H3.out.c 1 0 rfl rfl;have x1:=H3.out.c 1 1 rfl rfl
 go_wp2_with fail
 refine(HSG.out _ H3.out.pw).mono ?_
 rintro e w4 ⟨rfl,hb4⟩
 have H4:=hdz (H3.out.here hb4)
 clear hb4 H3 x0 x1
 go_upto_region 5 with (fail)
 have HRT:=hdz (show ∀X bs i,Kp w bs X→bs[i]?=some (w.heap.size,#[.string ⟨f.n.toArray⟩,.string ⟨f.d.toArray⟩],26)→X.cell? ⟨w.heap.size,0,none⟩=some (.string ⟨f.n.toArray⟩)∧X.cell? ⟨w.heap.size,1,none⟩=some (.string ⟨f.d.toArray⟩) from fun X bs i h hb=>⟨h.c i 0 hb rfl,h.c i 1 hb rfl⟩)
 have HPA:=hdz ((H4.out.new w4.heap.size rfl #[.string ⟨#[]⟩,.string ⟨#[]⟩] 26).drew)
 go_cut [7,8] (fun s p wc=>s=.string ⟨tn.toArray⟩∧∃P8,p=.pointer (some ⟨P8,0,none⟩)∧Hid (Kp w ((P8,#[.string ⟨pt.n.toArray⟩,.string ⟨pt.d.toArray⟩],26)::[(w.heap.size+1,#[.string ⟨#[]⟩,.string ⟨#[]⟩],26),(w.heap.size,#[.string ⟨f.n.toArray⟩,.string ⟨f.d.toArray⟩],26)]) wc))
 case first=>
  obtain⟨s00,s01⟩:=HRT.out _ _ 1 H4.out rfl
  have s0a:=HRT.out _ _ 2 HPA.out rfl
  go_region_held3 (fun X=>X.cell? ⟨w.heap.size,0,none⟩=some (.string ⟨f.n.toArray⟩)∧X.cell? ⟨w.heap.size,1,none⟩=some (.string ⟨f.d.toArray⟩))
   (first
     |with_reducible exact s4
     |with_reducible exact s3a
     |with_reducible exact s3
     |with_reducible exact s2a
     |with_reducible exact s2
     |with_reducible exact s1a
     |with_reducible exact s1
     |with_reducible exact s0a
     |go_keep)
   (first
     |(go_at_call 60;first
        |(refine(HOF.out _ H4.out.drew.po).mono ?_;rintro e y1 ⟨rfl,hy⟩;try unfold FrV S
          have g1:=H4.out.drew.here hy
          have s1:=HRT.out _ _ 1 g1 rfl
          have g1a:=g1.new y1.heap.size rfl #[.string ⟨#[]⟩,.string ⟨#[]⟩] 26
          have s1a:=HRT.out _ _ 2 g1a rfl)
        |(refine(HOF.out _ HPA.out.po).mono ?_;rintro e y1 ⟨rfl,hy⟩;try unfold FrV S
          have g1:=HPA.out.here hy
          have s1:=HRT.out _ _ 2 g1 rfl))
     |(go_at_call 55;first
        |(refine(HMU.out _ g1.po).mono ?_;rintro e y2 ⟨rfl,hy⟩;try unfold FrV S
          have g2:=g1.here hy)
        |(refine(HMU.out _ g1a.po).mono ?_;rintro e y2 ⟨rfl,hy⟩;try unfold FrV S
          have g2:=g1a.here hy)
       first
        |(have s2:=HRT.out _ _ 1 g2 rfl
          have g2a:=g2.new y2.heap.size rfl #[.string ⟨#[]⟩,.string ⟨#[]⟩] 26
          have s2a:=HRT.out _ _ 2 g2a rfl)
        |(have s2:=HRT.out _ _ 2 g2 rfl))
     |(go_at_call 59;first
        |(refine(HWH.out _ g2.pw).mono ?_;rintro e y3 ⟨rfl,hy⟩;try unfold FrV S
          have g3:=g2.here hy)
        |(refine(HWH.out _ g2a.pw).mono ?_;rintro e y3 ⟨rfl,hy⟩;try unfold FrV S
          have g3:=g2a.here hy)
       first
        |(have s3:=HRT.out _ _ 1 g3 rfl
          have g3a:=g3.new y3.heap.size rfl #[.string ⟨#[]⟩,.string ⟨#[]⟩] 26
          have s3a:=HRT.out _ _ 2 g3a rfl
          have g4:=(g3a.set 0 0 rfl (.string ⟨pt.n.toArray⟩)).set 0 1 rfl (.string ⟨pt.d.toArray⟩)
          have s4:=HRT.out _ _ 2 g4 rfl)
        |(have s3:=HRT.out _ _ 2 g3 rfl
          have n0:=g3.c 0 0 rfl rfl;have n1:=g3.c 0 1 rfl rfl
          have f0:=g3.f 0 0 rfl;have f1:=g3.f 0 1 rfl
          have g4:=(g3.set 0 0 rfl (.string ⟨pt.n.toArray⟩)).set 0 1 rfl (.string ⟨pt.d.toArray⟩)
          have s4:=HRT.out _ _ 2 g4 rfl)))
  all_goals
   go_wp2_with fail
   go_meet
   first
    |exact⟨rfl,_,rfl,g4⟩
    |exact⟨rfl,_,rfl,g3.new _ rfl _ _⟩
 case rest=>
 obtain⟨rfl,P8,rfl,H5⟩:=hcut
 clear H4 HPA HRT
 have k0:=H5.out.c 0 0 rfl rfl;have k1:=H5.out.c 0 1 rfl rfl
 have n0:=H5.out.c 1 0 rfl rfl;have n1:=H5.out.c 1 1 rfl rfl
 have f0:=H5.out.f 1 0 rfl;have f1:=H5.out.f 1 1 rfl
 have HE:=hdz (((H5.out.set 1 0 rfl (.string ⟨pt.n.toArray⟩)).set 1 1 rfl (.string ⟨pt.d.toArray⟩)).drew)
 obtain⟨r0,r1⟩:_∧_:=⟨HE.out.c 0 0 rfl rfl,HE.out.c 0 1 rfl rfl⟩
 have m0:=HE.out.c 1 0 rfl rfl;have m1:=HE.out.c 1 1 rfl rfl
 go_upto_region 6 with (fail)
 go_region_held3 (fun X=>X.cell? ⟨P8,0,none⟩=some (.string ⟨pt.n.toArray⟩)∧X.cell? ⟨P8,1,none⟩=some (.string ⟨pt.d.toArray⟩))
  (first
    |with_reducible exact⟨r0,r1⟩
    |go_keep)
  (fail)
 all_goals
  go_wp2_with fail
  refine bodyPost_ret (v:=.tuple #[.string ⟨tn.toArray⟩,.agg #[.string ⟨pt.n.toArray⟩,.string ⟨pt.d.toArray⟩],.int .i64 0]) (by simp[results,Tryz.results16,go_sem,m0,m1]) rfl ?_
  rw[HPO.out]
  exact⟨rfl,HE.out.bl⟩
end
section
open Go.RowKit Go.Shelf
theorem Zkr(q:List UInt8)(f:Fr)(w:World)(hp:Env w)(hql:q.length≤200)(hfz:f.Sz 200):Calls Tryz.prog 16 #[S q,FrV f] w (PrtPost (prtR q f) w):=by
 by_cases hgood:canB q=true∧f.ok∧0≤val q∧0<f.rat
 ·obtain⟨g1,g2,g3,g4⟩:=hgood
  have h:=ZlP q f w hp (Zmq g1) hql g2 hfz g3 g4
  have e:prtR q f=(txtL (flo (((val q:Int):Rat)*f.rat)),frOf (((val q:Int):Rat)*f.rat-((flo (((val q:Int):Rat)*f.rat):Int):Rat)),0):=by
   unfold prtR
   rw[if_neg (by rw[g1];simp[g2]),if_neg (by
    rintro(h1|h1)
    ·omega
    ·exact absurd g4 (Rat.not_lt.2 h1))]
  rw[e]
  exact h
 have HPO:=hdz (show PrtPost (prtR q f) w=fun e w'=>e=.returned (.tuple #[S (prtR q f).1,FrV (prtR q f).2.1,.int .i64 (prtR q f).2.2])∧Below w.heap.size w w' from rfl)
 have hsc:prtR q f=if canB q=false∨decide f.ok=false then([],Fr.zero,1) else([],Fr.zero,2):=by
  unfold prtR
  by_cases h1:canB q=false∨¬f.ok
  ·have h2:canB q=false∨decide f.ok=false:=h1.elim (fun h=>Or.inl h) (fun h=>Or.inr (decide_eq_false h))
   rw[if_pos h1,if_pos h2]
  ·have h2:¬(canB q=false∨decide f.ok=false):=fun h=>h1 (h.elim (fun h=>Or.inl h) (fun h=>Or.inr (of_decide_eq_false h)))
   have h3:val q<0∨f.rat≤0:=by
    apply Classical.byContradiction
    intro h4
    have a:canB q=true:=by
     cases h:canB q with
     |true=>rfl
     |false=>exact absurd (Or.inl h) h1
    have b:f.ok:=Classical.byContradiction fun h=>h1 (Or.inr h)
    have c:0≤val q:=Int.not_lt.1 fun h=>h4 (Or.inl h)
    have d:0<f.rat:=Rat.not_le.1 fun h=>h4 (Or.inr h)
    exact hgood ⟨a,b,c,d⟩
   rw[if_neg h1,if_neg h2,if_pos h3]
 have HSC:=hdz hsc
 clear hsc
 generalize PrtPost (prtR q f) w=post at*
 generalize prtR q f=res at*
 have HIC:=hdz (Zaz q (by omega))
 have HCT:=hdz (show(if q=txtL (val q) then(0:Int) else 1)=if canB q=true then 0 else 1 by
  unfold canB
  by_cases h:q=txtL (val q)
  ·rw[if_pos h,if_pos (decide_eq_true h)]
  ·rw[if_neg h,if_neg (by simpa using h)])
 rw[HCT.out] at HIC
 have HFC:=hdz (fun W hW=>ZbI f W hW (hfz.more (by omega)))
 have HKC:=hdz (Zck f)
 have HCM:=hdz (fun W=>Zar q [] W (by omega) (by simp))
 rw[ZaD,Int.sub_zero] at HCM
 have E1:=hdz (Zfx (val q));have E2:=hdz (Zfy f.rat 0)
 have HSG:=hdz (Zbn f (hfz.more (by omega)))
 have H:=hdz (show Kp w [(w.heap.size+1,#[.string ⟨#[]⟩,.string ⟨#[]⟩],26),(w.heap.size,#[.string ⟨f.n.toArray⟩,.string ⟨f.d.toArray⟩],26)] ((w.alloc (.cells #[.string ⟨f.n.toArray⟩,.string ⟨f.d.toArray⟩] 26)).alloc (.cells #[.string ⟨#[]⟩,.string ⟨#[]⟩] 26)) from((Kp.start hp).new w.heap.size rfl _ _).new (w.heap.size+1) (by simp) _ _)
 have HBD:=hdz (show ¬(canB q=true∧decide f.ok=true∧¬decide (val q<0)=true∧¬decide (f.rat≤0)=true) by
  intro⟨a,b,c,d⟩
  simp only[decide_eq_true_eq] at b c d
  exact hgood ⟨a,b,by omega,Rat.not_le.1 d⟩)
 clear hp hql hfz hgood HCT
 generalize decide (val q<0)=b1 at*
 generalize decide (f.rat≤0)=b2 at*
 generalize decide f.ok=o1 at*
 generalize chkF f=cf at*
 generalize canB q=cq at*
 generalize cmpR f.rat 0=z1 at*
 generalize sgnI (val q)=z0 at*
 unfold FrV S at*
 go_enter Tryz.func16,Tryz.ntmps16
 go_wp2_with fail
 generalize ((w.alloc (.cells #[.string ⟨f.n.toArray⟩,.string ⟨f.d.toArray⟩] 26)).alloc (.cells #[.string ⟨#[]⟩,.string ⟨#[]⟩] 26))=W0 at*
 refine(HIC.out _ H.out.pw).mono ?_
 rintro e w1 ⟨rfl,hb⟩
 replace H:=hdz (H.out.here hb)
 clear hb
 have x0:=H.out.c 1 0 rfl rfl;have x1:=H.out.c 1 1 rfl rfl;have y0:=H.out.c 0 0 rfl rfl;have y1:=H.out.c 0 1 rfl rfl;have f0:=H.out.f 0 0 rfl;have f1:=H.out.f 0 1 rfl
 cases cq with
 |false=>
  rw[if_pos (.inl rfl)] at HSC
  go_wp2_with fail
  refine bodyPost_ret (v:=.tuple #[.string ⟨#[]⟩,.agg #[.string ⟨#[]⟩,.string ⟨#[]⟩],.int .i64 1]) (by simp[results,Tryz.results16,go_sem,y0,y1]) rfl ?_
  rw[HPO.out,HSC.out]
  exact⟨rfl,(H.out.set2 _ _).bl⟩
 |true=>
 go_wp2_with fail
 refine(HFC.out _ H.out.po).mono ?_
 rintro e w2 ⟨rfl,hb⟩
 replace H:=hdz (H.out.here hb)
 clear hb x0 x1 y0 y1 f0 f1
 have x0:=H.out.c 1 0 rfl rfl;have x1:=H.out.c 1 1 rfl rfl;have y0:=H.out.c 0 0 rfl rfl;have y1:=H.out.c 0 1 rfl rfl;have f0:=H.out.f 0 0 rfl;have f1:=H.out.f 0 1 rfl
 rcases HKC.out with ⟨rfl,rfl⟩|⟨rfl,rfl⟩
 rotate_left
 ·rw[if_pos (.inr rfl)] at HSC
  go_wp2_with fail
  refine bodyPost_ret (v:=.tuple #[.string ⟨#[]⟩,.agg #[.string ⟨#[]⟩,.string ⟨#[]⟩],.int .i64 1]) (by simp[results,Tryz.results16,go_sem,y0,y1]) rfl ?_
  rw[HPO.out,HSC.out]
  exact⟨rfl,(H.out.set2 _ _).bl⟩
 rw[if_neg (by simp)] at HSC
 go_wp2_with fail
 refine(HCM.out _).mono ?_
 rintro e w3 ⟨rfl,hb⟩
 replace H:=hdz (H.out.here hb)
 clear hb x0 x1 y0 y1 f0 f1
 have x0:=H.out.c 1 0 rfl rfl;have x1:=H.out.c 1 1 rfl rfl;have y0:=H.out.c 0 0 rfl rfl;have y1:=H.out.c 0 1 rfl rfl;have f0:=H.out.f 0 0 rfl;have f1:=H.out.f 0 1 rfl
 by_cases hs:z0<0
 ·go_wp2_with fail
  refine bodyPost_ret (v:=.tuple #[.string ⟨#[]⟩,.agg #[.string ⟨#[]⟩,.string ⟨#[]⟩],.int .i64 2]) (by simp[results,Tryz.results16,go_sem,y0,y1]) rfl ?_
  rw[HPO.out,HSC.out]
  exact⟨rfl,(H.out.set2 _ _).bl⟩
 have HE1:=hdz (E1.out.symm.trans (decide_eq_false hs))
 go_wp2_with fail
 refine(HSG.out _ H.out.pw).mono ?_
 rintro e w4 ⟨rfl,hb⟩
 replace H:=hdz (H.out.here hb)
 clear hb x0 x1 y0 y1 f0 f1
 have y0:=H.out.c 0 0 rfl rfl;have y1:=H.out.c 0 1 rfl rfl;have f0:=H.out.f 0 0 rfl;have f1:=H.out.f 0 1 rfl
 have hz:z1≤0:=by
  apply Classical.byContradiction
  intro h
  have e1:=HE1.out
  have e2:=E2.out.symm.trans (decide_eq_false h)
  refine HBD.out ⟨?_,?_,by rw[e1];decide,by rw[e2];decide⟩<;>trivial
 go_wp2_with fail
 refine bodyPost_ret (v:=.tuple #[.string ⟨#[]⟩,.agg #[.string ⟨#[]⟩,.string ⟨#[]⟩],.int .i64 2]) (by simp[results,Tryz.results16,go_sem,y0,y1]) rfl ?_
 rw[HPO.out,HSC.out]
 exact⟨rfl,(H.out.set2 _ _).bl⟩
end
end Go.Proofs.YtpnncoinlopndaaGreatDoor
