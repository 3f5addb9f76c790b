/- Fp3, Fp4, Fp5, Fp6, Cf, FpQ. -/
import Derived.Test.YtokjnjdbnabchaaGreatDoorQGEp8
import Derived.Laws.EntriesVeiled
set_option maxRecDepth 20000
set_option maxHeartbeats 1000000
namespace Go.Proofs.YtokjnjdbnabchaaGreatDoor
open Go.Lib renaming hid→jq
open Go.RowKit Go.Shelf
section
structure FOp (g:Nat) (F:Int->Int->Int->Int->Int×Int):Prop where
 enters:∀args w,(callFunc g args).run Tryz.prog w=.ok (.enter g args) w
 calls:∀(a b c d:List UInt8) (p:Nat) (W:World),p<W.1.size->W.cell? ⟨p,0,none⟩=some (.func (.func 98) #[] #[])->Pow W->a.length<=20000->b.length<=20000->c.length<=20000->d.length<=20000->
  Calls Tryz.prog g #[S a,S b,S c,S d,.pointer (some ⟨p,0,none⟩)] W (QE (Qb (F (val a) (val b) (val c) (val d)).1) (Qb (F (val a) (val b) (val c) (val d)).2) W)
theorem ZdQ{a b:List UInt8}{L:Nat}(ha:a.length<=L)(hb:b.length<=L):(Qb (val a*val b)).length<=L+L+1:=Qk (Qq (QZ ha) (QZ hb))
theorem Zi2:FOp 100 (fun a b c d=>(a*d-c*b,b*d)):=⟨enters_of Tryz.func100 (by kernel_rfl) rfl,fun a b c d p w hp0 hc hp ha hb hcl hd=>by
 have HP:=jq hp;have HC:=jq hc;have HM0:=jq (fun W (hb:Below w.1.size w W)=>Yn a d W (HP.out.here hb) (by omega) (by omega));have HM1:=jq (fun W (hb:Below w.1.size w W)=>Yn c b W (HP.out.here hb) (by omega) (by omega));have HM2:=jq (fun W (hb:Below w.1.size w W)=>Yn b d W (HP.out.here hb) (by omega) (by omega));have HA:=jq (fun W (hb:Below w.1.size w W)=>Zhg (Qb (val a*val d)) (Qb (val c*val b)) W (HP.out.here hb) (by have:=ZdQ (a:=a) (b:=d) (L:=20000) (by omega) (by omega);omega) (by have:=ZdQ (a:=c) (b:=b) (L:=20000) (by omega) (by omega);omega));rw[Qh,Qh] at HA;have HPO:=jq (show QE (Qb (val a*val d-val c*val b)) (Qb (val b*val d)) w=fun e w'=>e=.returned (.tuple #[S (Qb (val a*val d-val c*val b)),S (Qb (val b*val d))])/\Below w.1.size w w' from rfl)
 show Calls _ _ _ _ (QE (Qb (val a*val d-val c*val b)) (Qb (val b*val d)) w)
 generalize QE (Qb (val a*val d-val c*val b)) (Qb (val b*val d)) w=post at*;clear hp hc ha hb hcl hd;have c0:=HC.out;have em:∀args w,(callFunc 98 args).run Tryz.prog w=.ok (.enter 98 args) w:=enters_of Tryz.func98 (by kernel_rfl) rfl;unfold S at*
 go_enter Tryz.func100,Tryz.ntmps100
 go_wp2_with fail
 go_region_held3 (fun w'=>w'.cell? ⟨p,0,none⟩=some (.func (.func 98) #[] #[]))
  (first
    |go_keep
    |exact(hz0.cell (p:=⟨p,0,none⟩) hp0).trans HC.out
    |exact(hz1.cell (p:=⟨p,0,none⟩) hp0).trans HC.out
    |exact(hz2.cell (p:=⟨p,0,none⟩) hp0).trans HC.out
    |exact(hz3.cell (p:=⟨p,0,none⟩) hp0).trans HC.out)
  (first
    |(go_at_call_of 98 (Value.string ⟨a.toArray⟩);refine(HM0.out _ ((Below.refl _ w).drew)).mono ?_;rintro e w0 ⟨rfl,hb0⟩;have hz0:Below w.1.size w w0:=((Below.refl _ w).drew).trans (hb0.mono (by first|exact Nat.le_refl _|exact((Below.refl _ w).drew).size)))
    |(go_at_call_of 98 (Value.string ⟨c.toArray⟩);refine(HM1.out _ (hz0)).mono ?_;rintro e w1 ⟨rfl,hb1⟩;have hz1:Below w.1.size w w1:=(hz0).trans (hb1.mono (by first|exact Nat.le_refl _|exact(hz0).size)))
    |(go_at_call 101;refine(HA.out _ (hz1)).mono ?_;rintro e w2 ⟨rfl,hb2⟩;have hz2:Below w.1.size w w2:=(hz1).trans (hb2.mono (by exact(hz1).size)))
    |(go_at_call_of 98 (Value.string ⟨b.toArray⟩);refine(HM2.out _ (hz2)).mono ?_;rintro e w3 ⟨rfl,hb3⟩;have hz3:Below w.1.size w w3:=(hz2).trans (hb3.mono (by first|exact Nat.le_refl _|exact(hz2).size))))
 all_goals
  go_wp2_with fail
  rw[HPO.out];exact⟨rfl,hz3⟩⟩
theorem Zi3:FOp 102 (fun a b c d=>(a*c,b*d)):=⟨enters_of Tryz.func102 (by kernel_rfl) rfl,fun a b c d p w hp0 hc hp ha hb hcl hd=>by
 have HP:=jq hp;have HC:=jq hc;have HM0:=jq (fun W (hb:Below w.1.size w W)=>Yn a c W (HP.out.here hb) (by omega) (by omega));have HM1:=jq (fun W (hb:Below w.1.size w W)=>Yn b d W (HP.out.here hb) (by omega) (by omega));have HPO:=jq (show QE (Qb (val a*val c)) (Qb (val b*val d)) w=fun e w'=>e=.returned (.tuple #[S (Qb (val a*val c)),S (Qb (val b*val d))])/\Below w.1.size w w' from rfl)
 show Calls _ _ _ _ (QE (Qb (val a*val c)) (Qb (val b*val d)) w)
 generalize QE (Qb (val a*val c)) (Qb (val b*val d)) w=post at*;clear hp hc ha hb hcl hd;have c0:=HC.out;have em:∀args w,(callFunc 98 args).run Tryz.prog w=.ok (.enter 98 args) w:=enters_of Tryz.func98 (by kernel_rfl) rfl;unfold S at*
 go_enter Tryz.func102,Tryz.ntmps102
 go_wp2_with fail
 go_region_held3 (fun w'=>w'.cell? ⟨p,0,none⟩=some (.func (.func 98) #[] #[]))
  (first
    |go_keep
    |exact(hz0.cell (p:=⟨p,0,none⟩) hp0).trans HC.out
    |exact(hz1.cell (p:=⟨p,0,none⟩) hp0).trans HC.out)
  (first
    |(go_at_call_of 98 (Value.string ⟨a.toArray⟩);refine(HM0.out _ ((Below.refl _ w).drew)).mono ?_;rintro e w0 ⟨rfl,hb0⟩;have hz0:Below w.1.size w w0:=((Below.refl _ w).drew).trans (hb0.mono (by first|exact Nat.le_refl _|exact((Below.refl _ w).drew).size)))
    |(go_at_call_of 98 (Value.string ⟨b.toArray⟩);refine(HM1.out _ (hz0)).mono ?_;rintro e w1 ⟨rfl,hb1⟩;have hz1:Below w.1.size w w1:=(hz0).trans (hb1.mono (by first|exact Nat.le_refl _|exact(hz0).size))))
 all_goals
  go_wp2_with fail
  rw[HPO.out];exact⟨rfl,hz1⟩⟩
theorem Zi4:FOp 103 (fun a b c d=>(a*d,b*c)):=⟨enters_of Tryz.func103 (by kernel_rfl) rfl,fun a b c d p w hp0 hc hp ha hb hcl hd=>by
 have HP:=jq hp;have HC:=jq hc;have HM0:=jq (fun W (hb:Below w.1.size w W)=>Yn a d W (HP.out.here hb) (by omega) (by omega));have HM1:=jq (fun W (hb:Below w.1.size w W)=>Yn b c W (HP.out.here hb) (by omega) (by omega));have HPO:=jq (show QE (Qb (val a*val d)) (Qb (val b*val c)) w=fun e w'=>e=.returned (.tuple #[S (Qb (val a*val d)),S (Qb (val b*val c))])/\Below w.1.size w w' from rfl)
 show Calls _ _ _ _ (QE (Qb (val a*val d)) (Qb (val b*val c)) w)
 generalize QE (Qb (val a*val d)) (Qb (val b*val c)) w=post at*;clear hp hc ha hb hcl hd;have c0:=HC.out;have em:∀args w,(callFunc 98 args).run Tryz.prog w=.ok (.enter 98 args) w:=enters_of Tryz.func98 (by kernel_rfl) rfl;unfold S at*
 go_enter Tryz.func103,Tryz.ntmps103
 go_wp2_with fail
 go_region_held3 (fun w'=>w'.cell? ⟨p,0,none⟩=some (.func (.func 98) #[] #[]))
  (first
    |go_keep
    |exact(hz0.cell (p:=⟨p,0,none⟩) hp0).trans HC.out
    |exact(hz1.cell (p:=⟨p,0,none⟩) hp0).trans HC.out)
  (first
    |(go_at_call_of 98 (Value.string ⟨a.toArray⟩);refine(HM0.out _ ((Below.refl _ w).drew)).mono ?_;rintro e w0 ⟨rfl,hb0⟩;have hz0:Below w.1.size w w0:=((Below.refl _ w).drew).trans (hb0.mono (by first|exact Nat.le_refl _|exact((Below.refl _ w).drew).size)))
    |(go_at_call_of 98 (Value.string ⟨b.toArray⟩);refine(HM1.out _ (hz0)).mono ?_;rintro e w1 ⟨rfl,hb1⟩;have hz1:Below w.1.size w w1:=(hz0).trans (hb1.mono (by first|exact Nat.le_refl _|exact(hz0).size))))
 all_goals
  go_wp2_with fail
  rw[HPO.out];exact⟨rfl,hz1⟩⟩
end
section
theorem VR(g:Nat)(F:Int->Int->Int->Int->Int×Int)(hop:FOp g F)(p:Nat)(f h:Fr)(w:World)(hp0:p<w.1.size)(hc:w.cell? ⟨p,0,none⟩=some (.func (.func 98) #[] #[]))(hp:Pow w)(hf:f.Sz 20000)(hh:h.Sz 20000)
 (h0:(F (val f.n) f.dv (val h.n) h.dv).2≠0) (hl1:(Qb (F (val f.n) f.dv (val h.n) h.dv).1).length<=50000) (hl2:(Qb (F (val f.n) f.dv (val h.n) h.dv).2).length<=50000):
 Calls Tryz.prog 56 #[.func (.func g) #[] #[.pointer (some ⟨p,0,none⟩)],Qj f,Qj h] w (Qi (Qd (Rat.divInt (F (val f.n) f.dv (val h.n) h.dv).1 (F (val f.n) f.dv (val h.n) h.dv).2)) w):=by
 have HOP:=jq (fun W hlt hc hp=>hop.calls f.n f.dt h.n h.dt p W hlt hc hp hf.1 (Fr.dt_len hf.2 (by omega)) hh.1 (Fr.dt_len hh.2 (by omega)));simp only[Fr.val_dt] at HOP;have eg:=hop.enters;have HPO:=jq (show Qi (Qd (Rat.divInt (F (val f.n) f.dv (val h.n) h.dv).1 (F (val f.n) f.dv (val h.n) h.dv).2)) w=fun e w'=>e=.returned (Qj (Qd (Rat.divInt (F (val f.n) f.dv (val h.n) h.dv).1 (F (val f.n) f.dv (val h.n) h.dv).2)))/\Below w.1.size w w' from rfl);generalize Qi (Qd (Rat.divInt (F (val f.n) f.dv (val h.n) h.dv).1 (F (val f.n) f.dv (val h.n) h.dv).2)) w=post at*;generalize (F (val f.n) f.dv (val h.n) h.dv).1=x at*;generalize (F (val f.n) f.dv (val h.n) h.dv).2=y at*;have hB1:FrB (((w.alloc (.cells #[.string ⟨f.n.toArray⟩,.string ⟨f.d.toArray⟩] 28)).alloc (.cells #[.string ⟨h.n.toArray⟩,.string ⟨h.d.toArray⟩] 28)).alloc (.cells #[.string ⟨#[]⟩,.string ⟨#[]⟩] 28)) w.1.size f:=((FrB.new w f).alloc _).alloc _
 have hB2:FrB (((w.alloc (.cells #[.string ⟨f.n.toArray⟩,.string ⟨f.d.toArray⟩] 28)).alloc (.cells #[.string ⟨h.n.toArray⟩,.string ⟨h.d.toArray⟩] 28)).alloc (.cells #[.string ⟨#[]⟩,.string ⟨#[]⟩] 28)) (w.1.size+1) h:=by
  have:=(FrB.new (w.alloc (.cells #[.string ⟨f.n.toArray⟩,.string ⟨f.d.toArray⟩] 28)) h).alloc (.cells #[.string ⟨#[]⟩,.string ⟨#[]⟩] 28)
  simpa using this
 have hB3:FrB (((w.alloc (.cells #[.string ⟨f.n.toArray⟩,.string ⟨f.d.toArray⟩] 28)).alloc (.cells #[.string ⟨h.n.toArray⟩,.string ⟨h.d.toArray⟩] 28)).alloc (.cells #[.string ⟨#[]⟩,.string ⟨#[]⟩] 28)) (w.1.size+1+1) Fr.zero:=by
  have:=FrB.new ((w.alloc (.cells #[.string ⟨f.n.toArray⟩,.string ⟨f.d.toArray⟩] 28)).alloc (.cells #[.string ⟨h.n.toArray⟩,.string ⟨h.d.toArray⟩] 28)) Fr.zero
  simp only[World.size_alloc] at this;exact this
 have hbA:Below w.1.size w (((w.alloc (.cells #[.string ⟨f.n.toArray⟩,.string ⟨f.d.toArray⟩] 28)).alloc (.cells #[.string ⟨h.n.toArray⟩,.string ⟨h.d.toArray⟩] 28)).alloc (.cells #[.string ⟨#[]⟩,.string ⟨#[]⟩] 28)):=(((Below.refl _ _).alloc (Nat.le_refl _) _).alloc (by simp) _).alloc (by simp;omega) _;have HB1:=jq hB1;have HB2:=jq hB2;have HB3:=jq hB3;have HBA:=jq hbA;have HP1:=jq (fun W=>Yc f W (by have:=hf.2;omega));have HP2:=jq (fun W=>Yc h W (by have:=hh.2;omega));have HMD:=jq (fun W hp=>JR (Qb x) (Qb y) W hp hl1 hl2 (by rw[Qh];exact h0));rw[Qh,Qh] at HMD;have HC:=jq hc;have HP:=jq hp;obtain⟨x0,x1⟩:=hB1.cells
 clear hB1 hB2 hB3 hbA hc hp hf hh hl1 hl2 h0 hop;unfold Qj at*
 unfold S at*
 go_enter Tryz.func56,Tryz.ntmps56
 go_wp2_with fail
 generalize (((w.alloc (.cells #[.string ⟨f.n.toArray⟩,.string ⟨f.d.toArray⟩] 28)).alloc (.cells #[.string ⟨h.n.toArray⟩,.string ⟨h.d.toArray⟩] 28)).alloc (.cells #[.string ⟨#[]⟩,.string ⟨#[]⟩] 28))=W at*;refine(HP1.out W).mono ?_;rintro e w1 ⟨rfl,hb1⟩;unfold S;have hb01:=HBA.out.trans (hb1.mono HBA.out.size);clear x0 x1;obtain⟨y0,y1⟩:=(HB2.out.here hb1).cells
 go_wp2_with fail
 refine(HP2.out w1).mono ?_;rintro e w2 ⟨rfl,hb2⟩;unfold S;have hb02:=hb01.trans (hb2.mono hb01.size);have hbW2:=hb1.trans (hb2.mono hb1.size);have HO2:=jq (HOP.out w2 (Nat.lt_of_lt_of_le hp0 hb02.size) ((hb02.cell (p:=⟨p,0,none⟩) hp0).trans HC.out) (HP.out.here hb02));clear y0 y1;go_wp2_with fail
 refine HO2.out.mono ?_;rintro e w3 ⟨rfl,hb3⟩;unfold S;have hb03:=hb02.trans (hb3.mono hb02.size);have hbW3:=hbW2.trans (hb3.mono hbW2.size);have HM3:=jq (HMD.out w3 (HP.out.here hb03));go_wp2_with fail
 refine HM3.out.mono ?_;rintro e w4 ⟨rfl,hb4⟩;have hbW4:=hbW3.trans (hb4.mono hbW3.size);have hb04:=hb03.trans (hb4.mono hb03.size);have HB4:=jq (HB3.out.here hbW4);obtain⟨z0,z1⟩:=HB4.out.cells
 have f0:=HB4.out.frozen 0;have f1:=HB4.out.frozen 1;generalize Qd (Rat.divInt x y)=res at*;unfold Qj S;go_wp2_with fail
 refine bodyPost_ret (v:=.agg #[.string ⟨res.n.toArray⟩,.string ⟨res.d.toArray⟩]) (by simp[results,Tryz.results56,go_sem,z0,z1]) rfl ?_;rw[HPO.out];exact⟨rfl,(hb04.setCell (p:=⟨w.1.size+1+1,0,none⟩) (by simp only;omega) _).setCell (p:=⟨w.1.size+1+1,1,none⟩) (by simp only;omega) _⟩
def Zbw(w:World)(e:Ending)(w':World):Prop:=
 ∃p,e=.returned (.agg #[.func (.func 99) #[] #[.pointer (some ⟨p,0,none⟩)],.func (.func 100) #[] #[.pointer (some ⟨p,0,none⟩)],.func (.func 102) #[] #[.pointer (some ⟨p,0,none⟩)],.func (.func 103) #[] #[.pointer (some ⟨p,0,none⟩)]])/\
  p<w'.1.size/\w'.cell? ⟨p,0,none⟩=some (.func (.func 98) #[] #[])/\Below w.1.size w w'
theorem Zbx(w:World):Calls Tryz.prog 57 #[] w (Zbw w):=by
 have HPO:=jq (show Zbw w=fun e w'=>∃p,e=.returned (.agg #[.func (.func 99) #[] #[.pointer (some ⟨p,0,none⟩)],.func (.func 100) #[] #[.pointer (some ⟨p,0,none⟩)],.func (.func 102) #[] #[.pointer (some ⟨p,0,none⟩)],.func (.func 103) #[] #[.pointer (some ⟨p,0,none⟩)]])/\
  p<w'.1.size/\w'.cell? ⟨p,0,none⟩=some (.func (.func 98) #[] #[])/\Below w.1.size w w' from rfl)
 generalize Zbw w=post at*;go_enter Tryz.func57,Tryz.ntmps57
 go_wp2_with fail
 refine bodyPost_ret (v:=.agg #[.func (.func 99) #[] #[.pointer (some ⟨w.1.size+1,0,none⟩)],.func (.func 100) #[] #[.pointer (some ⟨w.1.size+1,0,none⟩)],.func (.func 102) #[] #[.pointer (some ⟨w.1.size+1,0,none⟩)],.func (.func 103) #[] #[.pointer (some ⟨w.1.size+1,0,none⟩)]]) (by simp[results,Tryz.results57,go_sem]) rfl ?_;rw[HPO.out];refine⟨w.1.size+1,rfl,by simp,?_,((Below.refl _ _).alloc (Nat.le_refl _) _).alloc (by simp) _⟩;have:=World.cell?_alloc_new (w.alloc (.cells #[.func (.func 99) #[] #[.pointer (some ⟨w.1.size+1,0,none⟩)],.func (.func 100) #[] #[.pointer (some ⟨w.1.size+1,0,none⟩)],.func (.func 102) #[] #[.pointer (some ⟨w.1.size+1,0,none⟩)],.func (.func 103) #[] #[.pointer (some ⟨w.1.size+1,0,none⟩)]] 92))
 simp only[World.size_alloc] at this;simp[this]
end
section
structure Fr3 (w:World) (p:Nat) (f h:Fr) (W:World):Prop where
 a:FrB W p f
 b:FrB W (p+1) h
 c:FrB W (p+1+1) Fr.zero
 bl:Below w.1.size w W
 hp:w.1.size<=p
theorem Fr3.here{w:World}{p:Nat}{f h:Fr}{W W':World}(H:Fr3 w p f h W)(hb:Below W.1.size W W'):Fr3 w p f h W':=⟨H.a.here hb,H.b.here hb,H.c.here hb,H.bl.trans (hb.mono H.bl.size),H.hp⟩
theorem Fr3.held{w:World}{p:Nat}{f h:Fr}{W:World}(H:Fr3 w p f h W):W.cell? ⟨p,0,none⟩=some (.string ⟨f.n.toArray⟩)/\W.cell? ⟨p,1,none⟩=some (.string ⟨f.d.toArray⟩)/\W.cell? ⟨p+1,0,none⟩=some (.string ⟨h.n.toArray⟩)/\W.cell? ⟨p+1,1,none⟩=some (.string ⟨h.d.toArray⟩):=
 ⟨H.a.cells.1,H.a.cells.2,H.b.cells.1,H.b.cells.2⟩
theorem Fr3.heldS{w:World}{p:Nat}{f h:Fr}{W:World}(H:Fr3 w p f h W)(u v:Value):((W.setCell ⟨p+1+1,0,none⟩ u).setCell ⟨p+1+1,1,none⟩ v).cell? ⟨p,0,none⟩=some (.string ⟨f.n.toArray⟩)/\((W.setCell ⟨p+1+1,0,none⟩ u).setCell ⟨p+1+1,1,none⟩ v).cell? ⟨p,1,none⟩=some (.string ⟨f.d.toArray⟩)/\((W.setCell ⟨p+1+1,0,none⟩ u).setCell ⟨p+1+1,1,none⟩ v).cell? ⟨p+1,0,none⟩=some (.string ⟨h.n.toArray⟩)/\((W.setCell ⟨p+1+1,0,none⟩ u).setCell ⟨p+1+1,1,none⟩ v).cell? ⟨p+1,1,none⟩=some (.string ⟨h.d.toArray⟩):=
 have h1:=((H.a.far (a:=⟨p+1+1,0,none⟩) (by simp only;omega) u).far (a:=⟨p+1+1,1,none⟩) (by simp only;omega) v).cells;have h2:=((H.b.far (a:=⟨p+1+1,0,none⟩) (by simp only;omega) u).far (a:=⟨p+1+1,1,none⟩) (by simp only;omega) v).cells
 ⟨h1.1,h1.2,h2.1,h2.2⟩
theorem Fr3.new(w:World)(f h:Fr):Fr3 w w.1.size f h (((w.alloc (.cells #[.string ⟨f.n.toArray⟩,.string ⟨f.d.toArray⟩] 28)).alloc (.cells #[.string ⟨h.n.toArray⟩,.string ⟨h.d.toArray⟩] 28)).alloc (.cells #[.string ⟨#[]⟩,.string ⟨#[]⟩] 28)):=by
 refine⟨((FrB.new w f).alloc _).alloc _,?_,?_,(((Below.refl _ _).alloc (Nat.le_refl _) _).alloc (by simp) _).alloc (by simp;omega) _,Nat.le_refl _⟩
 ·have:=(FrB.new (w.alloc (.cells #[.string ⟨f.n.toArray⟩,.string ⟨f.d.toArray⟩] 28)) h).alloc (.cells #[.string ⟨#[]⟩,.string ⟨#[]⟩] 28)
  simp only[World.size_alloc] at this;exact this
 ·have:=FrB.new ((w.alloc (.cells #[.string ⟨f.n.toArray⟩,.string ⟨f.d.toArray⟩] 28)).alloc (.cells #[.string ⟨h.n.toArray⟩,.string ⟨h.d.toArray⟩] 28)) Fr.zero
  simp only[World.size_alloc] at this;exact this
theorem Zfp(p:Nat)(W:World):(Instr.index 92 (.agg #[.func (.func 99) #[] #[.pointer (some ⟨p,0,none⟩)],.func (.func 100) #[] #[.pointer (some ⟨p,0,none⟩)],.func (.func 102) #[] #[.pointer (some ⟨p,0,none⟩)],.func (.func 103) #[] #[.pointer (some ⟨p,0,none⟩)]]) (.int .i64 1)).run Tryz.prog W=.ok (.func (.func 100) #[] #[.pointer (some ⟨p,0,none⟩)]) W:=by kernel_rfl
theorem Zfq(p:Nat)(W:World):(Instr.index 92 (.agg #[.func (.func 99) #[] #[.pointer (some ⟨p,0,none⟩)],.func (.func 100) #[] #[.pointer (some ⟨p,0,none⟩)],.func (.func 102) #[] #[.pointer (some ⟨p,0,none⟩)],.func (.func 103) #[] #[.pointer (some ⟨p,0,none⟩)]]) (.int .i64 2)).run Tryz.prog W=.ok (.func (.func 102) #[] #[.pointer (some ⟨p,0,none⟩)]) W:=by kernel_rfl
theorem Zfr(p:Nat)(W:World):(Instr.index 92 (.agg #[.func (.func 99) #[] #[.pointer (some ⟨p,0,none⟩)],.func (.func 100) #[] #[.pointer (some ⟨p,0,none⟩)],.func (.func 102) #[] #[.pointer (some ⟨p,0,none⟩)],.func (.func 103) #[] #[.pointer (some ⟨p,0,none⟩)]]) (.int .i64 3)).run Tryz.prog W=.ok (.func (.func 103) #[] #[.pointer (some ⟨p,0,none⟩)]) W:=by kernel_rfl
theorem VS{n:Int}{L M:Nat}(h:n.natAbs<10^L)(hL:L+1<=M):(Qb n).length<=M:=Nat.le_trans (Qk h) hL
theorem Zfs(f h:Fr)(w:World)(hp:Pow w)(hf:f.Sz 20000)(hh:h.Sz 20000):Calls Tryz.prog 80 #[Qj f,Qj h] w (Qi (Qd (f.rat-h.rat)) w):=by
 have HAP:=jq (fun p W hlt hc hpw=>by
  obtain⟨K,hKe⟩:∃K:Nat,K=20000:=⟨_,rfl⟩
  rw[<-hKe] at hf hh;have hK:1<=K:=by omega
  exact VR 100 _ Zi2 p f h W hlt hc hpw (by rw[<-hKe];exact hf) (by rw[<-hKe];exact hh) (Int.mul_ne_zero f.dv_ne h.dv_ne) (VS (JK (Qq (QZ hf.1) (Fr.dv_lt hh.2 hK)) (Qq (QZ hh.1) (Fr.dv_lt hf.2 hK))) (by omega)) (VS (Qq (Fr.dv_lt hf.2 hK) (Fr.dv_lt hh.2 hK)) (by omega)))
 simp only[<-ZdJ] at HAP;have HPO:=jq (show Qi (Qd (f.rat-h.rat)) w=fun e w'=>e=.returned (Qj (Qd (f.rat-h.rat)))/\Below w.1.size w w' from rfl);generalize Qi (Qd (f.rat-h.rat)) w=post at*;generalize Qd (f.rat-h.rat)=res at*;have H3:=jq (Fr3.new w f h);have HP:=jq hp;obtain⟨x0,x1,y0,y1⟩:=H3.out.held
 clear hp hf hh;unfold Qj at*
 unfold S at*
 go_enter Tryz.func80,Tryz.ntmps80
 go_upto_region 1 with (fail)
 generalize (((w.alloc (.cells #[.string ⟨f.n.toArray⟩,.string ⟨f.d.toArray⟩] 28)).alloc (.cells #[.string ⟨h.n.toArray⟩,.string ⟨h.d.toArray⟩] 28)).alloc (.cells #[.string ⟨#[]⟩,.string ⟨#[]⟩] 28))=W at*
 go_region_held3 (fun w'=>w'.cell? ⟨w.1.size,0,none⟩=some (.string ⟨f.n.toArray⟩)/\w'.cell? ⟨w.1.size,1,none⟩=some (.string ⟨f.d.toArray⟩)/\w'.cell? ⟨w.1.size+1,0,none⟩=some (.string ⟨h.n.toArray⟩)/\w'.cell? ⟨w.1.size+1,1,none⟩=some (.string ⟨h.d.toArray⟩))
  (first
    |exact(H3.out.here hz2).heldS _ _
    |exact(H3.out.here hz2).held
    |exact(H3.out.here hz).held
    |go_keep)
  (first
    |(go_at_call 57;refine(Zbx _).mono ?_;rintro e w1 ⟨p,rfl,hlt,hc,hb1⟩;have hz:Below W.1.size W w1:=(Below.refl _ W).drew.trans hb1;have hix:=Zfp p w1)
    |(go_at_call 56;refine(HAP.out p _ hlt hc (HP.out.here (H3.out.here hz).bl)).mono ?_;rintro e w2 ⟨rfl,hb2⟩;unfold Qj S;have hz2:=hz.trans (hb2.mono hz.size);have z0:=(H3.out.here hz2).c.cells.1;have z1:=(H3.out.here hz2).c.cells.2;have f0:=(H3.out.here hz2).c.frozen 0;have f1:=(H3.out.here hz2).c.frozen 1))
 all_goals
  go_wp2_with fail
  refine bodyPost_ret (v:=.agg #[.string ⟨res.n.toArray⟩,.string ⟨res.d.toArray⟩]) (by simp[results,Tryz.results80,go_sem,z0,z1]) rfl ?_;rw[HPO.out];exact⟨rfl,((H3.out.here hz2).bl.setCell (p:=⟨w.1.size+1+1,0,none⟩) (by simp only;omega) _).setCell (p:=⟨w.1.size+1+1,1,none⟩) (by simp only;omega) _⟩
theorem JS(f h:Fr)(w:World)(hp:Pow w)(hf:f.Sz 20000)(hh:h.Sz 20000):Calls Tryz.prog 23 #[Qj f,Qj h] w (Qi (Qd (f.rat*h.rat)) w):=by
 have HAP:=jq (fun p W hlt hc hpw=>by
  obtain⟨K,hKe⟩:∃K:Nat,K=20000:=⟨_,rfl⟩
  rw[<-hKe] at hf hh;have hK:1<=K:=by omega
  exact VR 102 _ Zi3 p f h W hlt hc hpw (by rw[<-hKe];exact hf) (by rw[<-hKe];exact hh) (Int.mul_ne_zero f.dv_ne h.dv_ne) (VS (Qq (QZ hf.1) (QZ hh.1)) (by omega)) (VS (Qq (Fr.dv_lt hf.2 hK) (Fr.dv_lt hh.2 hK)) (by omega)))
 simp only[<-ZgW] at HAP;have HPO:=jq (show Qi (Qd (f.rat*h.rat)) w=fun e w'=>e=.returned (Qj (Qd (f.rat*h.rat)))/\Below w.1.size w w' from rfl);generalize Qi (Qd (f.rat*h.rat)) w=post at*;generalize Qd (f.rat*h.rat)=res at*;have H3:=jq (Fr3.new w f h);have HP:=jq hp;obtain⟨x0,x1,y0,y1⟩:=H3.out.held
 clear hp hf hh;unfold Qj at*
 unfold S at*
 go_enter Tryz.func23,Tryz.ntmps23
 go_upto_region 1 with (fail)
 generalize (((w.alloc (.cells #[.string ⟨f.n.toArray⟩,.string ⟨f.d.toArray⟩] 28)).alloc (.cells #[.string ⟨h.n.toArray⟩,.string ⟨h.d.toArray⟩] 28)).alloc (.cells #[.string ⟨#[]⟩,.string ⟨#[]⟩] 28))=W at*
 go_region_held3 (fun w'=>w'.cell? ⟨w.1.size,0,none⟩=some (.string ⟨f.n.toArray⟩)/\w'.cell? ⟨w.1.size,1,none⟩=some (.string ⟨f.d.toArray⟩)/\w'.cell? ⟨w.1.size+1,0,none⟩=some (.string ⟨h.n.toArray⟩)/\w'.cell? ⟨w.1.size+1,1,none⟩=some (.string ⟨h.d.toArray⟩))
  (first
    |exact(H3.out.here hz2).heldS _ _
    |exact(H3.out.here hz2).held
    |exact(H3.out.here hz).held
    |go_keep)
  (first
    |(go_at_call 57;refine(Zbx _).mono ?_;rintro e w1 ⟨p,rfl,hlt,hc,hb1⟩;have hz:Below W.1.size W w1:=(Below.refl _ W).drew.trans hb1;have hix:=Zfq p w1)
    |(go_at_call 56;refine(HAP.out p _ hlt hc (HP.out.here (H3.out.here hz).bl)).mono ?_;rintro e w2 ⟨rfl,hb2⟩;unfold Qj S;have hz2:=hz.trans (hb2.mono hz.size);have z0:=(H3.out.here hz2).c.cells.1;have z1:=(H3.out.here hz2).c.cells.2;have f0:=(H3.out.here hz2).c.frozen 0;have f1:=(H3.out.here hz2).c.frozen 1))
 all_goals
  go_wp2_with fail
  refine bodyPost_ret (v:=.agg #[.string ⟨res.n.toArray⟩,.string ⟨res.d.toArray⟩]) (by simp[results,Tryz.results23,go_sem,z0,z1]) rfl ?_;rw[HPO.out];exact⟨rfl,((H3.out.here hz2).bl.setCell (p:=⟨w.1.size+1+1,0,none⟩) (by simp only;omega) _).setCell (p:=⟨w.1.size+1+1,1,none⟩) (by simp only;omega) _⟩
end
section
def JB(r:Fr×Int)(w:World)(e:Ending)(w':World):Prop:=e=.returned (.tuple #[Qj r.1,.int .i64 r.2])/\Below w.1.size w w'
def Ju(x y:Rat):Fr×Int:=if y=0 then(Fr.zero,10) else(Qd (x/y),0)
theorem Zft(n:Int):(QQ n==0)=decide (n=0):=by
 unfold QQ;rw[Bool.eq_iff_iff];simp
 (repeat' split)<;>omega
theorem Zim{f h:Fr}{L:Nat}(hf:f.Sz L)(hh:h.Sz L)(hL:1<=L):(Qd (f.rat-h.rat)).Sz (L+L+1+1):=Zg1 (Zh7 hf hh hL)
theorem Vy(f h:Fr)(w:World)(hp:Pow w)(hf:f.Sz 20000)(hh:h.Sz 20000):Calls Tryz.prog 39 #[Qj f,Qj h] w (Xf (VM f.rat h.rat) w):=by
 have HSU:=jq (fun W hp=>Zfs f h W hp hf hh)
 have hsz:(Qd (f.rat-h.rat)).Sz 40002:=by
  obtain⟨K,hKe⟩:∃K:Nat,K=20000:=⟨_,rfl⟩
  rw[<-hKe] at hf hh;have:=Zim hf hh (by omega)
  rw[hKe] at this;exact this
 have HCR:=jq (show VM f.rat h.rat=QQ (val (Qd (f.rat-h.rat)).n-val []) by
  rw[Zfb,YN,Int.sub_zero];unfold Qd;simp only[Qh])
 have HPO:=jq (show Xf (VM f.rat h.rat) w=fun e w'=>e=.returned (.int .i64 (VM f.rat h.rat))/\Below w.1.size w w' from rfl);generalize Xf (VM f.rat h.rat) w=post at*;rw[HCR.out] at HPO;generalize Qd (f.rat-h.rat)=r at*;have HPA:=jq (fun W=>Yc r W (by have:=hsz.2;omega));have HCM:=jq (fun W=>QM r.n [] W (by have:=hsz.1;omega) (by simp));have HP:=jq hp;have hB1:FrB ((w.alloc (.cells #[.string ⟨f.n.toArray⟩,.string ⟨f.d.toArray⟩] 28)).alloc (.cells #[.string ⟨h.n.toArray⟩,.string ⟨h.d.toArray⟩] 28)) w.1.size f:=(FrB.new w f).alloc _
 have hB2:FrB ((w.alloc (.cells #[.string ⟨f.n.toArray⟩,.string ⟨f.d.toArray⟩] 28)).alloc (.cells #[.string ⟨h.n.toArray⟩,.string ⟨h.d.toArray⟩] 28)) (w.1.size+1) h:=by
  have:=FrB.new (w.alloc (.cells #[.string ⟨f.n.toArray⟩,.string ⟨f.d.toArray⟩] 28)) h
  simp only[World.size_alloc] at this;exact this
 have hbA:Below w.1.size w ((w.alloc (.cells #[.string ⟨f.n.toArray⟩,.string ⟨f.d.toArray⟩] 28)).alloc (.cells #[.string ⟨h.n.toArray⟩,.string ⟨h.d.toArray⟩] 28)):=((Below.refl _ _).alloc (Nat.le_refl _) _).alloc (by simp) _;obtain⟨x0,x1⟩:=hB1.cells
 obtain⟨y0,y1⟩:=hB2.cells
 have HBA:=jq hbA;clear hp hf hh hsz HCR hB1 hB2 hbA;unfold Qj at*
 unfold S at*
 go_enter Tryz.func39,Tryz.ntmps39
 go_wp2_with fail
 generalize (w.alloc (.cells #[.string ⟨f.n.toArray⟩,.string ⟨f.d.toArray⟩] 28)).alloc (.cells #[.string ⟨h.n.toArray⟩,.string ⟨h.d.toArray⟩] 28)=W at*;refine(HSU.out W (HP.out.here HBA.out)).mono ?_;rintro e w1 ⟨rfl,hb1⟩;unfold Qj S;have hb01:=HBA.out.trans (hb1.mono HBA.out.size);go_wp2_with fail
 refine(HPA.out w1).mono ?_;rintro e w2 ⟨rfl,hb2⟩;unfold S;have hb02:=hb01.trans (hb2.mono hb01.size);go_wp2_with fail
 refine(HCM.out w2).mono ?_;rintro e w3 ⟨rfl,hb3⟩;have hb03:=hb02.trans (hb3.mono hb02.size);go_wp2_with fail
 rw[HPO.out];exact⟨rfl,hb03⟩
theorem JC(a:List UInt8)(w:World)(hp:Pow w)(ha:a.length<=50000):Calls Tryz.prog 19 #[S a] w (Qi (Qd (val a)) w):=by
 have hbA:Below w.1.size w (w.alloc (.cells #[.string ⟨#[]⟩,.string ⟨#[]⟩] 28)):=(Below.refl _ _).alloc (Nat.le_refl _) _;have HMD:=jq (JR a [49] (w.alloc (.cells #[.string ⟨#[]⟩,.string ⟨#[]⟩] 28)) (hp.here hbA) ha (by simp) (by rw[YP];omega));rw[YP,Zc6] at HMD;have HPO:=jq (show Qi (Qd (val a)) w=fun e w'=>e=.returned (Qj (Qd (val a)))/\Below w.1.size w w' from rfl);generalize Qi (Qd (val a)) w=post at*;generalize Qd (val a)=res at*;have HB:=jq (show FrB (w.alloc (.cells #[.string ⟨#[]⟩,.string ⟨#[]⟩] 28)) w.1.size Fr.zero from FrB.new w Fr.zero);have HBA:=jq hbA;clear hp ha hbA;unfold Qj at*
 unfold S at*
 go_enter Tryz.func19,Tryz.ntmps19
 go_wp2_with fail
 generalize w.alloc _=W at*;refine HMD.out.mono ?_;rintro e w1 ⟨rfl,hb1⟩;unfold Qj S;have HB1:=jq (HB.out.here hb1);obtain⟨c0,c1⟩:=HB1.out.cells
 have f0:=HB1.out.frozen 0;have f1:=HB1.out.frozen 1;have hb01:=HBA.out.trans (hb1.mono HBA.out.size);go_wp2_with fail
 refine bodyPost_ret (v:=.agg #[.string ⟨res.n.toArray⟩,.string ⟨res.d.toArray⟩]) (by simp[results,Tryz.results19,go_sem,c0,c1]) rfl ?_;rw[HPO.out];exact⟨rfl,(hb01.setCell (p:=⟨w.1.size,0,none⟩) (Nat.le_refl _) _).setCell (p:=⟨w.1.size,1,none⟩) (Nat.le_refl _) _⟩
def Zcn(f:Fr):Int:=if f.ok then 0 else 1
theorem Zdf(f:Fr)(w:World)(hp:Pow w)(hf:f.Sz 20000):Calls Tryz.prog 38 #[Qj f] w (Xf (Zcn f) w):=by
 have hbA:Below w.1.size w (w.alloc (.cells #[.string ⟨f.n.toArray⟩,.string ⟨f.d.toArray⟩] 28)):=(Below.refl _ _).alloc (Nat.le_refl _) _;have HPA:=jq (fun W=>Yc f W (by have:=hf.2;omega));have HMD:=jq (fun W hp=>JR f.n f.dt W hp (by have:=hf.1;omega) (by have:=Fr.dt_len hf.2 (by omega);omega) (by rw[Fr.val_dt];exact f.dv_ne));rw[Fr.val_dt,show Rat.divInt (val f.n) f.dv=f.rat from rfl] at HMD;have HPO:=jq (show Xf (Zcn f) w=fun e w'=>e=.returned (.int .i64 (Zcn f))/\Below w.1.size w w' from rfl);have HCK:=jq (show Zcn f=if f=Qd f.rat then 0 else 1 from rfl);generalize Xf (Zcn f) w=post at*;generalize Qd f.rat=g at*;have HB:=jq (FrB.new w f);have HBA:=jq hbA;have HP:=jq hp;obtain⟨x0,x1⟩:=HB.out.cells
 clear hp hf hbA
 have HEQ:=jq (show Zcn f=if(f.n==g.n)&&(f.d==g.d) then 0 else 1 by
  rw[HCK.out]
  by_cases h:f=g
  ·subst h;simp
  ·rw[if_neg h,if_neg];intro h2;simp at h2;exact h (Fr.ext_ h2.1 h2.2))
 clear HCK;unfold Qj at*
 unfold S at*
 cases hn:(f.n==g.n)<;>cases hd:(f.d==g.d)
 all_goals
  rw[hn,hd] at HEQ;simp only[Bool.and_true,Bool.and_false,Bool.false_eq_true,if_true,if_false] at HEQ;go_enter Tryz.func38,Tryz.ntmps38
  go_upto_region 1 with (fail)
  generalize w.alloc _=W at*
  go_region_held3 (fun w'=>w'.cell? ⟨w.1.size,0,none⟩=some (.string ⟨f.n.toArray⟩)/\w'.cell? ⟨w.1.size,1,none⟩=some (.string ⟨f.d.toArray⟩))
   (first
     |exact(HB.out.here hz2).cells
     |exact(HB.out.here hz).cells
     |go_keep)
   (first
     |(go_at_call 79;refine(HPA.out _).mono ?_;rintro e w1 ⟨rfl,hb1⟩;unfold S;have hz:Below W.1.size W w1:=(Below.refl _ W).drew.trans hb1)
     |(go_at_call 54;refine(HMD.out _ (HP.out.here (HBA.out.trans (hz.mono HBA.out.size)))).mono ?_;rintro e w2 ⟨rfl,hb2⟩;unfold Qj S;have hz2:=hz.trans (hb2.mono hz.size)))
  all_goals
   go_wp2_with fail
   rw[HPO.out,HEQ.out];exact⟨rfl,HBA.out.trans (hz2.mono HBA.out.size)⟩
end
section
def F2(f:Fr):List Value:=[S f.n,S f.d]
theorem Zfu(f:Fr):(F2 f).length=2:=rfl
abbrev Frs(w:World)(B:Nat)(A:Option Addr)(n:Nat)(xs:List Fr):Prop:=Sl F2 2 w B A n xs
theorem Sl.fr{w:World}{B:Nat}{A:Option Addr}{n:Nat}{xs:List Fr}{i:Nat}(h:Frs w B A n xs)(hi:i<n):
 ∃b off x,A=some ⟨b,off,none⟩/\b<B/\xs[i]?=some x/\w.cell? ⟨b,off+i*2,none⟩=some (.string ⟨x.n.toArray⟩)/\w.cell? ⟨b,off+i*2+1,none⟩=some (.string ⟨x.d.toArray⟩):=by
 obtain⟨b,off,x,hA,hb,hx,hc⟩:=h.at_ hi
 exact⟨b,off,x,hA,hb,hx,hc 0 _ rfl,hc 1 _ rfl⟩
end
section
theorem ZfN(f h:Fr)(w:World)(hp:Pow w)(hf:f.Sz 20000)(hh:h.Sz 20000):Calls Tryz.prog 86 #[Qj f,Qj h] w (JB (Ju f.rat h.rat) w):=by
 have HCM:=jq (QM h.n [] (((w.alloc (.cells #[.string ⟨f.n.toArray⟩,.string ⟨f.d.toArray⟩] 28)).alloc (.cells #[.string ⟨h.n.toArray⟩,.string ⟨h.d.toArray⟩] 28)).alloc (.cells #[.string ⟨#[]⟩,.string ⟨#[]⟩] 28)) (by have:=hh.1;omega) (by simp));rw[show val ([]:List UInt8)=0 from YN,Int.sub_zero] at HCM
 have HAP:=jq (fun(h0:val h.n≠0) p W hlt hc hpw=>by
  obtain⟨K,hKe⟩:∃K:Nat,K=20000:=⟨_,rfl⟩
  rw[<-hKe] at hf hh;have hK:1<=K:=by omega
  exact VR 103 _ Zi4 p f h W hlt hc hpw (by rw[<-hKe];exact hf) (by rw[<-hKe];exact hh) (Int.mul_ne_zero f.dv_ne h0) (VS (Qq (QZ hf.1) (Fr.dv_lt hh.2 hK)) (by omega)) (VS (Qq (Fr.dv_lt hf.2 hK) (QZ hh.1)) (by omega)))
 simp only[<-ZgX] at HAP;have HQ:=jq (show Ju f.rat h.rat=if val h.n=0 then(Fr.zero,10) else(Qd (f.rat/h.rat),0) by unfold Ju;simp only[Zca]);have HPO:=jq (show JB (Ju f.rat h.rat) w=fun e w'=>e=.returned (.tuple #[Qj (Ju f.rat h.rat).1,.int .i64 (Ju f.rat h.rat).2])/\Below w.1.size w w' from rfl);generalize JB (Ju f.rat h.rat) w=post at*;generalize Qd (f.rat/h.rat)=res at*;have H3:=jq (Fr3.new w f h);have HP:=jq hp;obtain⟨x0,x1,y0,y1⟩:=H3.out.held
 clear hp hf hh;unfold Qj at*
 unfold S at*
 go_enter Tryz.func86,Tryz.ntmps86
 go_wp2_with fail
 generalize (((w.alloc (.cells #[.string ⟨f.n.toArray⟩,.string ⟨f.d.toArray⟩] 28)).alloc (.cells #[.string ⟨h.n.toArray⟩,.string ⟨h.d.toArray⟩] 28)).alloc (.cells #[.string ⟨#[]⟩,.string ⟨#[]⟩] 28))=W0 at*;refine HCM.out.mono ?_;rintro e W ⟨rfl,hb0⟩;have HS:=jq (Zft (val h.n));have H4:=jq (H3.out.here hb0);clear x0 x1 y0 y1;obtain⟨x0,x1,y0,y1⟩:=H4.out.held
 by_cases h0:val h.n=0
 ·have hs:(QQ (val h.n)==0)=true:=by rw[HS.out];simp[h0]
  rw[if_pos h0] at HQ;have z0:=H4.out.c.cells.1;have z1:=H4.out.c.cells.2;have f0:=H4.out.c.frozen 0;have f1:=H4.out.c.frozen 1;clear h0 HS;go_wp2_with fail
  refine bodyPost_ret (v:=.tuple #[.agg #[.string ⟨#[]⟩,.string ⟨#[]⟩],.int .i64 10]) (by simp[results,Tryz.results86,go_sem,z0,z1]) rfl ?_;rw[HPO.out,HQ.out];exact⟨rfl,(H4.out.bl.setCell (p:=⟨w.1.size+1+1,0,none⟩) (by simp only;omega) _).setCell (p:=⟨w.1.size+1+1,1,none⟩) (by simp only;omega) _⟩
 ·have hs:(QQ (val h.n)==0)=false:=by rw[HS.out];simp[h0]
  rw[if_neg h0] at HQ;have HAP2:=jq (HAP.out h0);clear h0 HS HAP;go_upto_region 3 with (fail)
  go_region_held3 (fun w'=>w'.cell? ⟨w.1.size,0,none⟩=some (.string ⟨f.n.toArray⟩)/\w'.cell? ⟨w.1.size,1,none⟩=some (.string ⟨f.d.toArray⟩)/\w'.cell? ⟨w.1.size+1,0,none⟩=some (.string ⟨h.n.toArray⟩)/\w'.cell? ⟨w.1.size+1,1,none⟩=some (.string ⟨h.d.toArray⟩))
   (first
     |exact(H4.out.here hz2).heldS _ _
     |exact(H4.out.here hz2).held
     |exact(H4.out.here hz).held
     |go_keep)
   (first
     |(go_at_call 57;refine(Zbx _).mono ?_;rintro e w1 ⟨p,rfl,hlt,hc,hb1⟩;have hz:Below W.1.size W w1:=(Below.refl _ W).drew.trans hb1;have hix:=Zfr p w1)
     |(go_at_call 56;refine(HAP2.out p _ hlt hc (HP.out.here (H4.out.here hz).bl)).mono ?_;rintro e w2 ⟨rfl,hb2⟩;unfold Qj S;have hz2:=hz.trans (hb2.mono hz.size);have z0:=(H4.out.here hz2).c.cells.1;have z1:=(H4.out.here hz2).c.cells.2;have f0:=(H4.out.here hz2).c.frozen 0;have f1:=(H4.out.here hz2).c.frozen 1))
  all_goals
   go_wp2_with fail
   refine bodyPost_ret (v:=.tuple #[.agg #[.string ⟨res.n.toArray⟩,.string ⟨res.d.toArray⟩],.int .i64 0]) (by simp[results,Tryz.results86,go_sem,z0,z1]) rfl ?_;rw[HPO.out,HQ.out];exact⟨rfl,((H4.out.here hz2).bl.setCell (p:=⟨w.1.size+1+1,0,none⟩) (by simp only;omega) _).setCell (p:=⟨w.1.size+1+1,1,none⟩) (by simp only;omega) _⟩
end
end Go.Proofs.YtokjnjdbnabchaaGreatDoor
