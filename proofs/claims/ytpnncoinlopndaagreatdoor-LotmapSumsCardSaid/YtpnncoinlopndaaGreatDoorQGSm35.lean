/- Rq12. -/
import Derived.Test.YtpnncoinlopndaaGreatDoorQGSm32
import Derived.Test.YtpnncoinlopndaaGreatDoorQGSm34
set_option maxRecDepth 100000
set_option maxHeartbeats 4000000
namespace Go.Proofs.YtpnncoinlopndaaGreatDoor
open Go.Lib renaming hid→hdz
section
open Go.RowKit Go.Shelf
attribute [local go_sem ↓] Go.wp_at_zero Go.wp_at_succ
def cashR(ls:List Lot)(m:Mp):List UInt8×Int:=if allC ls=0∧mpC m=0 then(txtL (planL (lotsOf ls m.inst) m).cash,0) else([],1)
def movR(ls:List Lot)(m:Mp):List UInt8×List UInt8×List UInt8×Int:=
 if allC ls=0∧mpC m=0 then(txtL ((planL (lotsOf ls m.inst) m).moved-(planL (lotsOf ls m.inst) m).taken),txtL (planL (lotsOf ls m.inst) m).taken,txtL (((lotsOf ls m.inst).map fun y=>val y.c).sum-(planL (lotsOf ls m.inst) m).moved),0) else([],[],[],1)
theorem Zm6(W:World)(a b c d e f g h i j k:Value):(Instr.field 73 (.agg #[a,b,c,d,e,f,g,h,i,j,k]) 9).run Tryz.prog W=.ok k W:=by kernel_rfl
structure SzR (ls:List Lot) (m:Mp) (n L:Nat):Prop where
 hn:n≤1002
 hl:∀x∈ls,x.Sz 50000
 hq:∀x∈ls,x.q.length≤L
 hc:∀x∈ls,x.c.length≤L
 hm:m.Max
 hr:m.ratio.Sz L
 hs:m.share.Sz L
 hp:m.price.Sz L
 L1:1≤L
 L2:L≤200
theorem SzR.calls{ls:List Lot}{m:Mp}{n L:Nat}(h:SzR ls m n L)(h1:allC ls=0)(h2:mpC m=0)(h3:lotsOf ls m.inst≠[]):CzC (lotsOf ls m.inst) m (planL (lotsOf ls m.inst) m):=by
 have hl:=(ZbA ls).1 h1
 have hm:=(Zel m).1 h2
 exact czC (ZaP hl m.inst) hm h3 (Nat.le_trans (Zbe ls m.inst) hl.len) h.L1 h.L2 (fun y hy=>h.hq y (List.mem_filter.1 hy).1) (fun y hy=>h.hc y (List.mem_filter.1 hy).1) h.hr h.hs h.hp
theorem ZiR(A:Option Addr)(n c:Nat)(ls:List Lot)(m:Mp)(w:World)(L:Nat)(hp:Env w)(hs:Lots w w.heap.size A n ls)(hcap:n≤c)(hz:SzR ls m n L):
 Calls Tryz.prog 19 #[.slice A n c,MpV m] w (CashPost (cashR ls m) w):=by
 have HPO:=hdz (show CashPost (cashR ls m) w=fun e w'=>e=.returned (.tuple #[S (cashR ls m).1,.int .i64 (cashR ls m).2])∧Below w.heap.size w w' from rfl)
 have HSC:=hdz (show cashR ls m=if allC ls=0∧mpC m=0 then(txtL (planL (lotsOf ls m.inst) m).cash,0) else([],1) from rfl)
 generalize CashPost (cashR ls m) w=post at*
 generalize cashR ls m=res at*
 have HVA:=hdz (fun W (hb:Below w.heap.size w W)=>ZeG A n c ls m W (hp.here hb) (hs.here hb) hz.hl (by have:=hz.hn;omega) hcap hz.hm (hz.hr.more (by have:=hz.L2;omega)) (hz.hs.more (by have:=hz.L2;omega)) (hz.hp.more (by have:=hz.L2;omega)))
 have H:=hdz ((Kp.start hp).new w.heap.size rfl #[.string ⟨m.cause.toArray⟩,.int .i64 m.day,.string ⟨m.inst.toArray⟩,.string ⟨m.other.toArray⟩,.string ⟨m.ratio.n.toArray⟩,.string ⟨m.ratio.d.toArray⟩,.string ⟨m.share.n.toArray⟩,.string ⟨m.share.d.toArray⟩,.string ⟨m.price.n.toArray⟩,.string ⟨m.price.d.toArray⟩,.bool m.keep] 28)
 by_cases hv:allC ls=0∧mpC m=0
 ·rw[if_pos hv] at HSC
  have hlen:n≤1000:=by have:=((ZbA ls).1 hv.1).len;have:=hs.1;omega
  have HCM:=hdz (fun W (hb:Below w.heap.size w W)=>Zdl A n c ls m W (hp.here hb) (hs.here hb) hlen (hz.calls hv.1 hv.2))
  rw[hv.1,hv.2] at HVA
  simp only[decide_true,Bool.and_true] at HVA
  have HCZ:=hdz (fun vo vn vm vf vp=>Zh0 vo vn vm vf vp (planL (lotsOf ls m.inst) m))
  clear hs hcap hz hp hv hlen
  unfold CzPost at HCM
  unfold MpV at HVA HCM ⊢
  rw[ZaM] at HVA HCM ⊢
  simp only[HCZ.out] at HCM
  generalize txtL (planL (lotsOf ls m.inst) m).parts=tp at*
  generalize frOf (planL (lotsOf ls m.inst) m).part=fp at*
  generalize txtL (planL (lotsOf ls m.inst) m).moved=tm at*
  generalize txtL (planL (lotsOf ls m.inst) m).taken=tt at*
  generalize txtL (planL (lotsOf ls m.inst) m).cash=tca at*
  obtain⟨x0,x1,x2,x3,x4,x5,x6,x7,x8,x9,x10⟩:=z11 H.out (i:=0) rfl
  go_enter Tryz.func19,Tryz.ntmps19
  go_wp2_with fail
  generalize w.alloc _=W0 at*
  refine(HVA.out _ H.out.bl).mono ?_
  rintro e w1 ⟨rfl,hb⟩
  replace H:=hdz (H.out.here hb)
  clear hb x0 x1 x2 x3 x4 x5 x6 x7 x8 x9 x10
  obtain⟨x0,x1,x2,x3,x4,x5,x6,x7,x8,x9,x10⟩:=z11 H.out (i:=0) rfl
  go_wp2_with fail
  refine(HCM.out _ H.out.bl).mono ?_
  rintro e w2 ⟨Ao,co,An,cn,Am,cm,Af,cf,Ap,cp,rfl,h1,h2,h3,h4,h5,hb⟩
  have hfl:=Zm6 w2 (.slice Ao (lotsOf ls m.inst).length co) (.slice An (lotsOf ls m.inst).length cn) (.slice Am (lotsOf ls m.inst).length cm) (.slice Af (lotsOf ls m.inst).length cf) (.slice Ap (lotsOf ls m.inst).length cp) (.string ⟨tp.toArray⟩) (.string ⟨fp.n.toArray⟩) (.string ⟨fp.d.toArray⟩) (.string ⟨tm.toArray⟩) (.string ⟨tt.toArray⟩) (.string ⟨tca.toArray⟩)
  have HB:=hdz ((H.out.here hb).bl)
  clear h1 h2 h3 h4 h5 hb
  go_wp2_with fail
  first|go_ret2|skip
  rw[HPO.out,HSC.out]
  exact⟨rfl,HB.out⟩
 ·rw[if_neg hv] at HSC
  have hf:(decide (allC ls=0)&&decide (mpC m=0))=false:=by
   rw[Bool.eq_false_iff]
   intro h
   rw[Bool.and_eq_true,decide_eq_true_eq,decide_eq_true_eq] at h
   exact hv h
  rw[hf] at HVA
  clear hs hcap hz hp hv hf
  unfold MpV at HVA ⊢
  rw[ZaM] at HVA ⊢
  obtain⟨x0,x1,x2,x3,x4,x5,x6,x7,x8,x9,x10⟩:=z11 H.out (i:=0) rfl
  go_enter Tryz.func19,Tryz.ntmps19
  go_wp2_with fail
  generalize w.alloc _=W0 at*
  refine(HVA.out _ H.out.bl).mono ?_
  rintro e w1 ⟨rfl,hb⟩
  go_wp2_with fail
  first|go_ret2|skip
  rw[HPO.out,HSC.out]
  exact⟨rfl,(H.out.here hb).bl⟩
theorem Zhh(A:Option Addr)(n c:Nat)(ls:List Lot)(m:Mp)(w:World)(L:Nat)(hp:Env w)(hs:Lots w w.heap.size A n ls)(hcap:n≤c)(hz:SzR ls m n L):
 Calls Tryz.prog 21 #[.slice A n c,MpV m] w (MovPost (movR ls m) w):=by
 have HPO:=hdz (show MovPost (movR ls m) w=fun e w'=>e=.returned (.tuple #[S (movR ls m).1,S (movR ls m).2.1,S (movR ls m).2.2.1,.int .i64 (movR ls m).2.2.2])∧Below w.heap.size w w' from rfl)
 have HSC:=hdz (show movR ls m=if allC ls=0∧mpC m=0 then(txtL ((planL (lotsOf ls m.inst) m).moved-(planL (lotsOf ls m.inst) m).taken),txtL (planL (lotsOf ls m.inst) m).taken,txtL (((lotsOf ls m.inst).map fun y=>val y.c).sum-(planL (lotsOf ls m.inst) m).moved),0) else([],[],[],1) from rfl)
 generalize MovPost (movR ls m) w=post at*
 generalize movR ls m=res at*
 have HVA:=hdz (fun W (hb:Below w.heap.size w W)=>ZeG A n c ls m W (hp.here hb) (hs.here hb) hz.hl (by have:=hz.hn;omega) hcap hz.hm (hz.hr.more (by have:=hz.L2;omega)) (hz.hs.more (by have:=hz.L2;omega)) (hz.hp.more (by have:=hz.L2;omega)))
 have H:=hdz ((Kp.start hp).new w.heap.size rfl #[.string ⟨m.cause.toArray⟩,.int .i64 m.day,.string ⟨m.inst.toArray⟩,.string ⟨m.other.toArray⟩,.string ⟨m.ratio.n.toArray⟩,.string ⟨m.ratio.d.toArray⟩,.string ⟨m.share.n.toArray⟩,.string ⟨m.share.d.toArray⟩,.string ⟨m.price.n.toArray⟩,.string ⟨m.price.d.toArray⟩,.bool m.keep] 28)
 by_cases hv:allC ls=0∧mpC m=0
 ·rw[if_pos hv] at HSC
  have hlen:n≤1000:=by have:=((ZbA ls).1 hv.1).len;have:=hs.1;omega
  have HCM:=hdz (fun W (hb:Below w.heap.size w W)=>Zdl A n c ls m W (hp.here hb) (hs.here hb) hlen (hz.calls hv.1 hv.2))
  have hok:=(ZbA ls).1 hv.1
  have hmk:=(Zel m).1 hv.2
  have hol:(lotsOf ls m.inst).length≤1000:=Nat.le_trans (Zbe ls m.inst) hok.len
  have HCO:=hdz (fun W Ao co (hW:Lots W W.heap.size Ao (lotsOf ls m.inst).length (lotsOf ls m.inst))=>Zdk Ao (lotsOf ls m.inst).length co (lotsOf ls m.inst) W hW hol)
  have hcl:∀y∈lotsOf ls m.inst,y.c.length≤L:=fun y hy=>hz.hc y (List.mem_filter.1 hy).1
  have hpk:=Zds (L:=L) (ZaP hok m.inst) hmk hol hz.L1 (fun y hy=>hz.hq y (List.mem_filter.1 hy).1) hcl hz.hr hz.hp
  have hsc:(((lotsOf ls m.inst).map fun y=>val y.c).sum).natAbs<10^(L+4):=Zc6 (fun y hy=>Zai (hcl y hy)) hol
  have lm:=Zab hpk.moved;have lt:=Zab hpk.taken;have lc:=Zab hsc
  have hL2:=hz.L2
  have HS1:=hdz (fun W=>Zdg (txtL (planL (lotsOf ls m.inst) m).moved) (txtL (planL (lotsOf ls m.inst) m).taken) W (by omega) (by omega))
  rw[Zaa,Zaa] at HS1
  have HS2:=hdz (fun W=>Zdg (txtL ((lotsOf ls m.inst).map fun y=>val y.c).sum) (txtL (planL (lotsOf ls m.inst) m).moved) W (by omega) (by omega))
  rw[Zaa,Zaa] at HS2
  have HSU:=hdz (fun W A2 c2 (hW:Strs W W.heap.size A2 (lotsOf ls m.inst).length ((lotsOf ls m.inst).map (·.c)))=>ZbN A2 (lotsOf ls m.inst).length c2 ((lotsOf ls m.inst).map (·.c)) W hW (fun x hx=>by obtain⟨y,hy,rfl⟩:=List.mem_map.1 hx;have:=hcl y hy;omega) (by omega))
  have hsv:sumV ((lotsOf ls m.inst).map (·.c))=((lotsOf ls m.inst).map fun y=>val y.c).sum:=by unfold sumV;rw[ZfM]
  rw[hsv] at HSU
  rw[hv.1,hv.2] at HVA
  simp only[decide_true,Bool.and_true] at HVA
  have HCZ:=hdz (fun vo vn vm vf vp=>Zh0 vo vn vm vf vp (planL (lotsOf ls m.inst) m))
  clear hs hcap hz hp hv hlen hok hmk hol hcl hpk hsc lm lt lc hL2 hsv
  unfold CzPost at HCM
  unfold ColPost at HCO
  unfold StrPost at HS1 HS2 HSU
  unfold MpV at HVA HCM ⊢
  rw[ZaM] at HVA HCM ⊢
  simp only[HCZ.out] at HCM
  generalize txtL (((lotsOf ls m.inst).map fun y=>val y.c).sum-(planL (lotsOf ls m.inst) m).moved)=r3 at*
  generalize txtL ((planL (lotsOf ls m.inst) m).moved-(planL (lotsOf ls m.inst) m).taken)=r1 at*
  generalize txtL ((lotsOf ls m.inst).map fun y=>val y.c).sum=tc at*
  generalize txtL (planL (lotsOf ls m.inst) m).parts=tp at*
  generalize frOf (planL (lotsOf ls m.inst) m).part=fp at*
  generalize txtL (planL (lotsOf ls m.inst) m).moved=tm at*
  generalize txtL (planL (lotsOf ls m.inst) m).taken=tt at*
  generalize txtL (planL (lotsOf ls m.inst) m).cash=tca at*
  try unfold S at HS1
  try unfold S at HS2
  try unfold S at HSU
  obtain⟨x0,x1,x2,x3,x4,x5,x6,x7,x8,x9,x10⟩:=z11 H.out (i:=0) rfl
  go_enter Tryz.func21,Tryz.ntmps21
  go_wp2_with fail
  generalize w.alloc _=W0 at*
  refine(HVA.out _ H.out.bl).mono ?_
  rintro e w1 ⟨rfl,hb⟩
  replace H:=hdz (H.out.here hb)
  clear hb x0 x1 x2 x3 x4 x5 x6 x7 x8 x9 x10
  obtain⟨x0,x1,x2,x3,x4,x5,x6,x7,x8,x9,x10⟩:=z11 H.out (i:=0) rfl
  go_wp2_with fail
  refine(HCM.out _ H.out.bl).mono ?_
  rintro e w2 ⟨Ao,co,An,cn,Am,cm,Af,cf,Ap,cp,rfl,h1,h2,h3,h4,h5,hb⟩
  have H2:=hdz ((H.out.here hb).new w2.heap.size rfl #[.slice Ao (lotsOf ls m.inst).length co,.slice An (lotsOf ls m.inst).length cn,.slice Am (lotsOf ls m.inst).length cm,.slice Af (lotsOf ls m.inst).length cf,.slice Ap (lotsOf ls m.inst).length cp,.string ⟨tp.toArray⟩,.string ⟨fp.n.toArray⟩,.string ⟨fp.d.toArray⟩,.string ⟨tm.toArray⟩,.string ⟨tt.toArray⟩,.string ⟨tca.toArray⟩] 73)
  have HL:=hdz (h1.here ((Below.refl w2.heap.size w2).alloc (Nat.le_refl _) (.cells #[.slice Ao (lotsOf ls m.inst).length co,.slice An (lotsOf ls m.inst).length cn,.slice Am (lotsOf ls m.inst).length cm,.slice Af (lotsOf ls m.inst).length cf,.slice Ap (lotsOf ls m.inst).length cp,.string ⟨tp.toArray⟩,.string ⟨fp.n.toArray⟩,.string ⟨fp.d.toArray⟩,.string ⟨tm.toArray⟩,.string ⟨tt.toArray⟩,.string ⟨tca.toArray⟩] 73)))
  clear h1 h2 h3 h4 h5 hb H x0 x1 x2 x3 x4 x5 x6 x7 x8 x9 x10 HCM HVA
  go_upto_region 4 with (fail)
  generalize w2.alloc _=W2 at*
  generalize w2.heap.size=q at*
  have c0:=H2.out.c 0 0 rfl rfl
  go_wp2_with fail
  refine(HCO.out _ _ _ HL.out).mono ?_
  rintro e w3 ⟨A1,c1,A2,c2,rfl,hq,hcs,hb⟩
  have H3:=hdz (H2.out.here hb)
  have HC:=hdz hcs
  clear hq hcs hb c0 H2 HL HCO
  go_upto_region 5 with (fail)
  have hS:=hdz (fun V (h:Bz w3 V)=>(show V.cell? ⟨q,8,none⟩=some (.string ⟨tm.toArray⟩)∧V.cell? ⟨q,9,none⟩=some (.string ⟨tt.toArray⟩) from⟨(H3.out.here h).c 0 8 rfl rfl,(H3.out.here h).c 0 9 rfl rfl⟩))
  go_region_held3 (fun w'=>w'.cell? ⟨q,8,none⟩=some (.string ⟨tm.toArray⟩)∧w'.cell? ⟨q,9,none⟩=some (.string ⟨tt.toArray⟩))
   (first|(exact hS.out _ (by repeat' (first|assumption|exact Bz.refl _|refine Bz.drew ?_|refine Bz.alloc ?_ _|refine Bz.set ?_ (by first|assumption|exact Nat.le_refl _|exact Bz.size (by assumption)) _ _)))|go_keep)
   (first
     |(go_at_call_of 35 (Value.string ⟨tm.toArray⟩);refine(HS1.out _).mono ?_;rintro e v1 ⟨rfl,hb1⟩;have hz1:Bz w3 v1:=Bz.call (by repeat' (first|assumption|exact Bz.refl _|refine Bz.drew ?_|refine Bz.alloc ?_ _|refine Bz.set ?_ (by first|assumption|exact Nat.le_refl _|exact Bz.size (by assumption)) _ _)) hb1;have g1:=(HC.out.drew).below hb1)
     |(go_at_call 69;refine(HSU.out _ _ _ (g1.sl ZaL)).mono ?_;rintro e v2 ⟨rfl,hb2⟩;have hz2:Bz w3 v2:=Bz.call (by repeat' (first|assumption|exact Bz.refl _|refine Bz.drew ?_|refine Bz.alloc ?_ _|refine Bz.set ?_ (by first|assumption|exact Nat.le_refl _|exact Bz.size (by assumption)) _ _)) hb2)
     |(go_at_call_of 35 (Value.string ⟨tc.toArray⟩);refine(HS2.out _).mono ?_;rintro e v3 ⟨rfl,hb3⟩;have hz3:Bz w3 v3:=Bz.call (by repeat' (first|assumption|exact Bz.refl _|refine Bz.drew ?_|refine Bz.alloc ?_ _|refine Bz.set ?_ (by first|assumption|exact Nat.le_refl _|exact Bz.size (by assumption)) _ _)) hb3))
  all_goals
   go_wp2_with fail
   refine bodyPost_ret (v:=.tuple #[.string ⟨r1.toArray⟩,.string ⟨tt.toArray⟩,.string ⟨r3.toArray⟩,.int .i64 0]) (by simp[results,Tryz.results21,go_sem]) rfl ?_
   rw[HPO.out,HSC.out]
   exact⟨rfl,(H3.out.here hz3).bl⟩
 ·rw[if_neg hv] at HSC
  have hf:(decide (allC ls=0)&&decide (mpC m=0))=false:=by
   rw[Bool.eq_false_iff]
   intro h
   rw[Bool.and_eq_true,decide_eq_true_eq,decide_eq_true_eq] at h
   exact hv h
  rw[hf] at HVA
  clear hs hcap hz hp hv hf
  unfold MpV at HVA ⊢
  rw[ZaM] at HVA ⊢
  obtain⟨x0,x1,x2,x3,x4,x5,x6,x7,x8,x9,x10⟩:=z11 H.out (i:=0) rfl
  go_enter Tryz.func21,Tryz.ntmps21
  go_wp2_with fail
  generalize w.alloc _=W0 at*
  refine(HVA.out _ H.out.bl).mono ?_
  rintro e w1 ⟨rfl,hb⟩
  go_wp2_with fail
  refine bodyPost_ret (v:=.tuple #[.string ⟨#[]⟩,.string ⟨#[]⟩,.string ⟨#[]⟩,.int .i64 1]) (by simp[results,Tryz.results21,go_sem]) rfl ?_
  rw[HPO.out,HSC.out]
  exact⟨rfl,(H.out.here hb).bl⟩
end
end Go.Proofs.YtpnncoinlopndaaGreatDoor
