/- Fp3, Fp4, Fp5. -/
import Derived.Test.YtokjnjdbnabchaaGreatDoorQGEo8
import Derived.Laws.EntriesVeiled
set_option maxRecDepth 20000
set_option maxHeartbeats 1000000
namespace Go.Proofs.YtokjnjdbnabchaaGreatDoor
open Go.Lib renaming hid→jq
open Go.RowKit Go.Shelf
section
structure FOp (g:Nat) (F:Int->Int->Int->Int->Int×Int):Prop where
 enters:∀args w,(callFunc g args).run Tryz.prog w=.ok (.enter g args) w
 calls:∀(a b c d:List UInt8) (p:Nat) (W:World),p<W.1.size->W.cell? ⟨p,0,none⟩=some (.func (.func 98) #[] #[])->Pow W->a.length<=20000->b.length<=20000->c.length<=20000->d.length<=20000->
  Calls Tryz.prog g #[S a,S b,S c,S d,.pointer (some ⟨p,0,none⟩)] W (QE (Qb (F (val a) (val b) (val c) (val d)).1) (Qb (F (val a) (val b) (val c) (val d)).2) W)
theorem ZdB{a b:List UInt8}{L:Nat}(ha:a.length<=L)(hb:b.length<=L):(Qb (val a*val b)).length<=L+L+1:=Qk (Qq (QV ha) (QV hb))
theorem Zi0:FOp 100 (fun a b c d=>(a*d-c*b,b*d)):=⟨enters_of Tryz.func100 (by kernel_rfl) rfl,fun a b c d p w hp0 hc hp ha hb hcl hd=>by
 have HP:=jq hp;have HC:=jq hc;have HM0:=jq (fun W (hb:Below w.1.size w W)=>Ye a d W (HP.out.here hb) (by omega) (by omega));have HM1:=jq (fun W (hb:Below w.1.size w W)=>Ye c b W (HP.out.here hb) (by omega) (by omega));have HM2:=jq (fun W (hb:Below w.1.size w W)=>Ye b d W (HP.out.here hb) (by omega) (by omega));have HA:=jq (fun W (hb:Below w.1.size w W)=>ZgZ (Qb (val a*val d)) (Qb (val c*val b)) W (HP.out.here hb) (by have:=ZdB (a:=a) (b:=d) (L:=20000) (by omega) (by omega);omega) (by have:=ZdB (a:=c) (b:=b) (L:=20000) (by omega) (by omega);omega));rw[Qi,Qi] at HA;have HPO:=jq (show QE (Qb (val a*val d-val c*val b)) (Qb (val b*val d)) w=fun e w'=>e=.returned (.tuple #[S (Qb (val a*val d-val c*val b)),S (Qb (val b*val d))])/\Below w.1.size w w' from rfl)
 show Calls _ _ _ _ (QE (Qb (val a*val d-val c*val b)) (Qb (val b*val d)) w)
 generalize QE (Qb (val a*val d-val c*val b)) (Qb (val b*val d)) w=post at*;clear hp hc ha hb hcl hd;have c0:=HC.out;have em:∀args w,(callFunc 98 args).run Tryz.prog w=.ok (.enter 98 args) w:=enters_of Tryz.func98 (by kernel_rfl) rfl;unfold S at*
 go_enter Tryz.func100,Tryz.ntmps100
 go_wp2_with fail
 go_region_held3 (fun w'=>w'.cell? ⟨p,0,none⟩=some (.func (.func 98) #[] #[]))
  (first
    |go_keep
    |exact(hz0.cell (p:=⟨p,0,none⟩) hp0).trans HC.out
    |exact(hz1.cell (p:=⟨p,0,none⟩) hp0).trans HC.out
    |exact(hz2.cell (p:=⟨p,0,none⟩) hp0).trans HC.out
    |exact(hz3.cell (p:=⟨p,0,none⟩) hp0).trans HC.out)
  (first
    |(go_at_call_of 98 (Value.string ⟨a.toArray⟩);refine(HM0.out _ ((Below.refl _ w).drew)).mono ?_;rintro e w0 ⟨rfl,hb0⟩;have hz0:Below w.1.size w w0:=((Below.refl _ w).drew).trans (hb0.mono (by first|exact Nat.le_refl _|exact((Below.refl _ w).drew).size)))
    |(go_at_call_of 98 (Value.string ⟨c.toArray⟩);refine(HM1.out _ (hz0)).mono ?_;rintro e w1 ⟨rfl,hb1⟩;have hz1:Below w.1.size w w1:=(hz0).trans (hb1.mono (by first|exact Nat.le_refl _|exact(hz0).size)))
    |(go_at_call 101;refine(HA.out _ (hz1)).mono ?_;rintro e w2 ⟨rfl,hb2⟩;have hz2:Below w.1.size w w2:=(hz1).trans (hb2.mono (by exact(hz1).size)))
    |(go_at_call_of 98 (Value.string ⟨b.toArray⟩);refine(HM2.out _ (hz2)).mono ?_;rintro e w3 ⟨rfl,hb3⟩;have hz3:Below w.1.size w w3:=(hz2).trans (hb3.mono (by first|exact Nat.le_refl _|exact(hz2).size))))
 all_goals
  go_wp2_with fail
  rw[HPO.out];exact⟨rfl,hz3⟩⟩
theorem Zi1:FOp 102 (fun a b c d=>(a*c,b*d)):=⟨enters_of Tryz.func102 (by kernel_rfl) rfl,fun a b c d p w hp0 hc hp ha hb hcl hd=>by
 have HP:=jq hp;have HC:=jq hc;have HM0:=jq (fun W (hb:Below w.1.size w W)=>Ye a c W (HP.out.here hb) (by omega) (by omega));have HM1:=jq (fun W (hb:Below w.1.size w W)=>Ye b d W (HP.out.here hb) (by omega) (by omega));have HPO:=jq (show QE (Qb (val a*val c)) (Qb (val b*val d)) w=fun e w'=>e=.returned (.tuple #[S (Qb (val a*val c)),S (Qb (val b*val d))])/\Below w.1.size w w' from rfl)
 show Calls _ _ _ _ (QE (Qb (val a*val c)) (Qb (val b*val d)) w)
 generalize QE (Qb (val a*val c)) (Qb (val b*val d)) w=post at*;clear hp hc ha hb hcl hd;have c0:=HC.out;have em:∀args w,(callFunc 98 args).run Tryz.prog w=.ok (.enter 98 args) w:=enters_of Tryz.func98 (by kernel_rfl) rfl;unfold S at*
 go_enter Tryz.func102,Tryz.ntmps102
 go_wp2_with fail
 go_region_held3 (fun w'=>w'.cell? ⟨p,0,none⟩=some (.func (.func 98) #[] #[]))
  (first
    |go_keep
    |exact(hz0.cell (p:=⟨p,0,none⟩) hp0).trans HC.out
    |exact(hz1.cell (p:=⟨p,0,none⟩) hp0).trans HC.out)
  (first
    |(go_at_call_of 98 (Value.string ⟨a.toArray⟩);refine(HM0.out _ ((Below.refl _ w).drew)).mono ?_;rintro e w0 ⟨rfl,hb0⟩;have hz0:Below w.1.size w w0:=((Below.refl _ w).drew).trans (hb0.mono (by first|exact Nat.le_refl _|exact((Below.refl _ w).drew).size)))
    |(go_at_call_of 98 (Value.string ⟨b.toArray⟩);refine(HM1.out _ (hz0)).mono ?_;rintro e w1 ⟨rfl,hb1⟩;have hz1:Below w.1.size w w1:=(hz0).trans (hb1.mono (by first|exact Nat.le_refl _|exact(hz0).size))))
 all_goals
  go_wp2_with fail
  rw[HPO.out];exact⟨rfl,hz1⟩⟩
theorem Zi2:FOp 103 (fun a b c d=>(a*d,b*c)):=⟨enters_of Tryz.func103 (by kernel_rfl) rfl,fun a b c d p w hp0 hc hp ha hb hcl hd=>by
 have HP:=jq hp;have HC:=jq hc;have HM0:=jq (fun W (hb:Below w.1.size w W)=>Ye a d W (HP.out.here hb) (by omega) (by omega));have HM1:=jq (fun W (hb:Below w.1.size w W)=>Ye b c W (HP.out.here hb) (by omega) (by omega));have HPO:=jq (show QE (Qb (val a*val d)) (Qb (val b*val c)) w=fun e w'=>e=.returned (.tuple #[S (Qb (val a*val d)),S (Qb (val b*val c))])/\Below w.1.size w w' from rfl)
 show Calls _ _ _ _ (QE (Qb (val a*val d)) (Qb (val b*val c)) w)
 generalize QE (Qb (val a*val d)) (Qb (val b*val c)) w=post at*;clear hp hc ha hb hcl hd;have c0:=HC.out;have em:∀args w,(callFunc 98 args).run Tryz.prog w=.ok (.enter 98 args) w:=enters_of Tryz.func98 (by kernel_rfl) rfl;unfold S at*
 go_enter Tryz.func103,Tryz.ntmps103
 go_wp2_with fail
 go_region_held3 (fun w'=>w'.cell? ⟨p,0,none⟩=some (.func (.func 98) #[] #[]))
  (first
    |go_keep
    |exact(hz0.cell (p:=⟨p,0,none⟩) hp0).trans HC.out
    |exact(hz1.cell (p:=⟨p,0,none⟩) hp0).trans HC.out)
  (first
    |(go_at_call_of 98 (Value.string ⟨a.toArray⟩);refine(HM0.out _ ((Below.refl _ w).drew)).mono ?_;rintro e w0 ⟨rfl,hb0⟩;have hz0:Below w.1.size w w0:=((Below.refl _ w).drew).trans (hb0.mono (by first|exact Nat.le_refl _|exact((Below.refl _ w).drew).size)))
    |(go_at_call_of 98 (Value.string ⟨b.toArray⟩);refine(HM1.out _ (hz0)).mono ?_;rintro e w1 ⟨rfl,hb1⟩;have hz1:Below w.1.size w w1:=(hz0).trans (hb1.mono (by first|exact Nat.le_refl _|exact(hz0).size))))
 all_goals
  go_wp2_with fail
  rw[HPO.out];exact⟨rfl,hz1⟩⟩
end
section
theorem VH(g:Nat)(F:Int->Int->Int->Int->Int×Int)(hop:FOp g F)(p:Nat)(f h:Fr)(w:World)(hp0:p<w.1.size)(hc:w.cell? ⟨p,0,none⟩=some (.func (.func 98) #[] #[]))(hp:Pow w)(hf:f.Sz 20000)(hh:h.Sz 20000)
 (h0:(F (val f.n) f.dv (val h.n) h.dv).2≠0) (hl1:(Qb (F (val f.n) f.dv (val h.n) h.dv).1).length<=50000) (hl2:(Qb (F (val f.n) f.dv (val h.n) h.dv).2).length<=50000):
 Calls Tryz.prog 56 #[.func (.func g) #[] #[.pointer (some ⟨p,0,none⟩)],Qj f,Qj h] w (Qh (Qd (Rat.divInt (F (val f.n) f.dv (val h.n) h.dv).1 (F (val f.n) f.dv (val h.n) h.dv).2)) w):=by
 have HOP:=jq (fun W hlt hc hp=>hop.calls f.n f.dt h.n h.dt p W hlt hc hp hf.1 (Fr.dt_len hf.2 (by omega)) hh.1 (Fr.dt_len hh.2 (by omega)));simp only[Fr.val_dt] at HOP;have eg:=hop.enters;have HPO:=jq (show Qh (Qd (Rat.divInt (F (val f.n) f.dv (val h.n) h.dv).1 (F (val f.n) f.dv (val h.n) h.dv).2)) w=fun e w'=>e=.returned (Qj (Qd (Rat.divInt (F (val f.n) f.dv (val h.n) h.dv).1 (F (val f.n) f.dv (val h.n) h.dv).2)))/\Below w.1.size w w' from rfl);generalize Qh (Qd (Rat.divInt (F (val f.n) f.dv (val h.n) h.dv).1 (F (val f.n) f.dv (val h.n) h.dv).2)) w=post at*;generalize (F (val f.n) f.dv (val h.n) h.dv).1=x at*;generalize (F (val f.n) f.dv (val h.n) h.dv).2=y at*;have hB1:FrB (((w.alloc (.cells #[.string ⟨f.n.toArray⟩,.string ⟨f.d.toArray⟩] 28)).alloc (.cells #[.string ⟨h.n.toArray⟩,.string ⟨h.d.toArray⟩] 28)).alloc (.cells #[.string ⟨#[]⟩,.string ⟨#[]⟩] 28)) w.1.size f:=((FrB.new w f).alloc _).alloc _
 have hB2:FrB (((w.alloc (.cells #[.string ⟨f.n.toArray⟩,.string ⟨f.d.toArray⟩] 28)).alloc (.cells #[.string ⟨h.n.toArray⟩,.string ⟨h.d.toArray⟩] 28)).alloc (.cells #[.string ⟨#[]⟩,.string ⟨#[]⟩] 28)) (w.1.size+1) h:=by
  have:=(FrB.new (w.alloc (.cells #[.string ⟨f.n.toArray⟩,.string ⟨f.d.toArray⟩] 28)) h).alloc (.cells #[.string ⟨#[]⟩,.string ⟨#[]⟩] 28)
  simpa using this
 have hB3:FrB (((w.alloc (.cells #[.string ⟨f.n.toArray⟩,.string ⟨f.d.toArray⟩] 28)).alloc (.cells #[.string ⟨h.n.toArray⟩,.string ⟨h.d.toArray⟩] 28)).alloc (.cells #[.string ⟨#[]⟩,.string ⟨#[]⟩] 28)) (w.1.size+1+1) Fr.zero:=by
  have:=FrB.new ((w.alloc (.cells #[.string ⟨f.n.toArray⟩,.string ⟨f.d.toArray⟩] 28)).alloc (.cells #[.string ⟨h.n.toArray⟩,.string ⟨h.d.toArray⟩] 28)) Fr.zero
  simp only[World.size_alloc] at this;exact this
 have hbA:Below w.1.size w (((w.alloc (.cells #[.string ⟨f.n.toArray⟩,.string ⟨f.d.toArray⟩] 28)).alloc (.cells #[.string ⟨h.n.toArray⟩,.string ⟨h.d.toArray⟩] 28)).alloc (.cells #[.string ⟨#[]⟩,.string ⟨#[]⟩] 28)):=(((Below.refl _ _).alloc (Nat.le_refl _) _).alloc (by simp) _).alloc (by simp;omega) _;have HB1:=jq hB1;have HB2:=jq hB2;have HB3:=jq hB3;have HBA:=jq hbA;have HP1:=jq (fun W=>XX f W (by have:=hf.2;omega));have HP2:=jq (fun W=>XX h W (by have:=hh.2;omega));have HMD:=jq (fun W hp=>JG (Qb x) (Qb y) W hp hl1 hl2 (by rw[Qi];exact h0));rw[Qi,Qi] at HMD;have HC:=jq hc;have HP:=jq hp;obtain⟨x0,x1⟩:=hB1.cells
 clear hB1 hB2 hB3 hbA hc hp hf hh hl1 hl2 h0 hop;unfold Qj at*
 unfold S at*
 go_enter Tryz.func56,Tryz.ntmps56
 go_wp2_with fail
 generalize (((w.alloc (.cells #[.string ⟨f.n.toArray⟩,.string ⟨f.d.toArray⟩] 28)).alloc (.cells #[.string ⟨h.n.toArray⟩,.string ⟨h.d.toArray⟩] 28)).alloc (.cells #[.string ⟨#[]⟩,.string ⟨#[]⟩] 28))=W at*;refine(HP1.out W).mono ?_;rintro e w1 ⟨rfl,hb1⟩;unfold S;have hb01:=HBA.out.trans (hb1.mono HBA.out.size);clear x0 x1;obtain⟨y0,y1⟩:=(HB2.out.here hb1).cells
 go_wp2_with fail
 refine(HP2.out w1).mono ?_;rintro e w2 ⟨rfl,hb2⟩;unfold S;have hb02:=hb01.trans (hb2.mono hb01.size);have hbW2:=hb1.trans (hb2.mono hb1.size);have HO2:=jq (HOP.out w2 (Nat.lt_of_lt_of_le hp0 hb02.size) ((hb02.cell (p:=⟨p,0,none⟩) hp0).trans HC.out) (HP.out.here hb02));clear y0 y1;go_wp2_with fail
 refine HO2.out.mono ?_;rintro e w3 ⟨rfl,hb3⟩;unfold S;have hb03:=hb02.trans (hb3.mono hb02.size);have hbW3:=hbW2.trans (hb3.mono hbW2.size);have HM3:=jq (HMD.out w3 (HP.out.here hb03));go_wp2_with fail
 refine HM3.out.mono ?_;rintro e w4 ⟨rfl,hb4⟩;have hbW4:=hbW3.trans (hb4.mono hbW3.size);have hb04:=hb03.trans (hb4.mono hb03.size);have HB4:=jq (HB3.out.here hbW4);obtain⟨z0,z1⟩:=HB4.out.cells
 have f0:=HB4.out.frozen 0;have f1:=HB4.out.frozen 1;generalize Qd (Rat.divInt x y)=res at*;unfold Qj S;go_wp2_with fail
 refine bodyPost_ret (v:=.agg #[.string ⟨res.n.toArray⟩,.string ⟨res.d.toArray⟩]) (by simp[results,Tryz.results56,go_sem,z0,z1]) rfl ?_;rw[HPO.out];exact⟨rfl,(hb04.setCell (p:=⟨w.1.size+1+1,0,none⟩) (by simp only;omega) _).setCell (p:=⟨w.1.size+1+1,1,none⟩) (by simp only;omega) _⟩
def Zbf(w:World)(e:Ending)(w':World):Prop:=
 ∃p,e=.returned (.agg #[.func (.func 99) #[] #[.pointer (some ⟨p,0,none⟩)],.func (.func 100) #[] #[.pointer (some ⟨p,0,none⟩)],.func (.func 102) #[] #[.pointer (some ⟨p,0,none⟩)],.func (.func 103) #[] #[.pointer (some ⟨p,0,none⟩)]])/\
  p<w'.1.size/\w'.cell? ⟨p,0,none⟩=some (.func (.func 98) #[] #[])/\Below w.1.size w w'
theorem Zbg(w:World):Calls Tryz.prog 57 #[] w (Zbf w):=by
 have HPO:=jq (show Zbf w=fun e w'=>∃p,e=.returned (.agg #[.func (.func 99) #[] #[.pointer (some ⟨p,0,none⟩)],.func (.func 100) #[] #[.pointer (some ⟨p,0,none⟩)],.func (.func 102) #[] #[.pointer (some ⟨p,0,none⟩)],.func (.func 103) #[] #[.pointer (some ⟨p,0,none⟩)]])/\
  p<w'.1.size/\w'.cell? ⟨p,0,none⟩=some (.func (.func 98) #[] #[])/\Below w.1.size w w' from rfl)
 generalize Zbf w=post at*;go_enter Tryz.func57,Tryz.ntmps57
 go_wp2_with fail
 refine bodyPost_ret (v:=.agg #[.func (.func 99) #[] #[.pointer (some ⟨w.1.size+1,0,none⟩)],.func (.func 100) #[] #[.pointer (some ⟨w.1.size+1,0,none⟩)],.func (.func 102) #[] #[.pointer (some ⟨w.1.size+1,0,none⟩)],.func (.func 103) #[] #[.pointer (some ⟨w.1.size+1,0,none⟩)]]) (by simp[results,Tryz.results57,go_sem]) rfl ?_;rw[HPO.out];refine⟨w.1.size+1,rfl,by simp,?_,((Below.refl _ _).alloc (Nat.le_refl _) _).alloc (by simp) _⟩;have:=World.cell?_alloc_new (w.alloc (.cells #[.func (.func 99) #[] #[.pointer (some ⟨w.1.size+1,0,none⟩)],.func (.func 100) #[] #[.pointer (some ⟨w.1.size+1,0,none⟩)],.func (.func 102) #[] #[.pointer (some ⟨w.1.size+1,0,none⟩)],.func (.func 103) #[] #[.pointer (some ⟨w.1.size+1,0,none⟩)]] 92))
 simp only[World.size_alloc] at this;simp[this]
end
section
structure Fr3 (w:World) (p:Nat) (f h:Fr) (W:World):Prop where
 a:FrB W p f
 b:FrB W (p+1) h
 c:FrB W (p+1+1) Fr.zero
 bl:Below w.1.size w W
 hp:w.1.size<=p
theorem Fr3.here{w:World}{p:Nat}{f h:Fr}{W W':World}(H:Fr3 w p f h W)(hb:Below W.1.size W W'):Fr3 w p f h W':=⟨H.a.here hb,H.b.here hb,H.c.here hb,H.bl.trans (hb.mono H.bl.size),H.hp⟩
theorem Fr3.held{w:World}{p:Nat}{f h:Fr}{W:World}(H:Fr3 w p f h W):W.cell? ⟨p,0,none⟩=some (.string ⟨f.n.toArray⟩)/\W.cell? ⟨p,1,none⟩=some (.string ⟨f.d.toArray⟩)/\W.cell? ⟨p+1,0,none⟩=some (.string ⟨h.n.toArray⟩)/\W.cell? ⟨p+1,1,none⟩=some (.string ⟨h.d.toArray⟩):=
 ⟨H.a.cells.1,H.a.cells.2,H.b.cells.1,H.b.cells.2⟩
theorem Fr3.heldS{w:World}{p:Nat}{f h:Fr}{W:World}(H:Fr3 w p f h W)(u v:Value):((W.setCell ⟨p+1+1,0,none⟩ u).setCell ⟨p+1+1,1,none⟩ v).cell? ⟨p,0,none⟩=some (.string ⟨f.n.toArray⟩)/\((W.setCell ⟨p+1+1,0,none⟩ u).setCell ⟨p+1+1,1,none⟩ v).cell? ⟨p,1,none⟩=some (.string ⟨f.d.toArray⟩)/\((W.setCell ⟨p+1+1,0,none⟩ u).setCell ⟨p+1+1,1,none⟩ v).cell? ⟨p+1,0,none⟩=some (.string ⟨h.n.toArray⟩)/\((W.setCell ⟨p+1+1,0,none⟩ u).setCell ⟨p+1+1,1,none⟩ v).cell? ⟨p+1,1,none⟩=some (.string ⟨h.d.toArray⟩):=
 have h1:=((H.a.far (a:=⟨p+1+1,0,none⟩) (by simp only;omega) u).far (a:=⟨p+1+1,1,none⟩) (by simp only;omega) v).cells;have h2:=((H.b.far (a:=⟨p+1+1,0,none⟩) (by simp only;omega) u).far (a:=⟨p+1+1,1,none⟩) (by simp only;omega) v).cells
 ⟨h1.1,h1.2,h2.1,h2.2⟩
theorem Fr3.new(w:World)(f h:Fr):Fr3 w w.1.size f h (((w.alloc (.cells #[.string ⟨f.n.toArray⟩,.string ⟨f.d.toArray⟩] 28)).alloc (.cells #[.string ⟨h.n.toArray⟩,.string ⟨h.d.toArray⟩] 28)).alloc (.cells #[.string ⟨#[]⟩,.string ⟨#[]⟩] 28)):=by
 refine⟨((FrB.new w f).alloc _).alloc _,?_,?_,(((Below.refl _ _).alloc (Nat.le_refl _) _).alloc (by simp) _).alloc (by simp;omega) _,Nat.le_refl _⟩
 ·have:=(FrB.new (w.alloc (.cells #[.string ⟨f.n.toArray⟩,.string ⟨f.d.toArray⟩] 28)) h).alloc (.cells #[.string ⟨#[]⟩,.string ⟨#[]⟩] 28)
  simp only[World.size_alloc] at this;exact this
 ·have:=FrB.new ((w.alloc (.cells #[.string ⟨f.n.toArray⟩,.string ⟨f.d.toArray⟩] 28)).alloc (.cells #[.string ⟨h.n.toArray⟩,.string ⟨h.d.toArray⟩] 28)) Fr.zero
  simp only[World.size_alloc] at this;exact this
theorem Ze8(p:Nat)(W:World):(Instr.index 92 (.agg #[.func (.func 99) #[] #[.pointer (some ⟨p,0,none⟩)],.func (.func 100) #[] #[.pointer (some ⟨p,0,none⟩)],.func (.func 102) #[] #[.pointer (some ⟨p,0,none⟩)],.func (.func 103) #[] #[.pointer (some ⟨p,0,none⟩)]]) (.int .i64 1)).run Tryz.prog W=.ok (.func (.func 100) #[] #[.pointer (some ⟨p,0,none⟩)]) W:=by kernel_rfl
theorem Ze9(p:Nat)(W:World):(Instr.index 92 (.agg #[.func (.func 99) #[] #[.pointer (some ⟨p,0,none⟩)],.func (.func 100) #[] #[.pointer (some ⟨p,0,none⟩)],.func (.func 102) #[] #[.pointer (some ⟨p,0,none⟩)],.func (.func 103) #[] #[.pointer (some ⟨p,0,none⟩)]]) (.int .i64 2)).run Tryz.prog W=.ok (.func (.func 102) #[] #[.pointer (some ⟨p,0,none⟩)]) W:=by kernel_rfl
theorem Zfa(p:Nat)(W:World):(Instr.index 92 (.agg #[.func (.func 99) #[] #[.pointer (some ⟨p,0,none⟩)],.func (.func 100) #[] #[.pointer (some ⟨p,0,none⟩)],.func (.func 102) #[] #[.pointer (some ⟨p,0,none⟩)],.func (.func 103) #[] #[.pointer (some ⟨p,0,none⟩)]]) (.int .i64 3)).run Tryz.prog W=.ok (.func (.func 103) #[] #[.pointer (some ⟨p,0,none⟩)]) W:=by kernel_rfl
theorem VI{n:Int}{L M:Nat}(h:n.natAbs<10^L)(hL:L+1<=M):(Qb n).length<=M:=Nat.le_trans (Qk h) hL
theorem Zfb(f h:Fr)(w:World)(hp:Pow w)(hf:f.Sz 20000)(hh:h.Sz 20000):Calls Tryz.prog 80 #[Qj f,Qj h] w (Qh (Qd (f.rat-h.rat)) w):=by
 have HAP:=jq (fun p W hlt hc hpw=>by
  obtain⟨K,hKe⟩:∃K:Nat,K=20000:=⟨_,rfl⟩
  rw[<-hKe] at hf hh;have hK:1<=K:=by omega
  exact VH 100 _ Zi0 p f h W hlt hc hpw (by rw[<-hKe];exact hf) (by rw[<-hKe];exact hh) (Int.mul_ne_zero f.dv_ne h.dv_ne) (VI (Jz (Qq (QV hf.1) (Fr.dv_lt hh.2 hK)) (Qq (QV hh.1) (Fr.dv_lt hf.2 hK))) (by omega)) (VI (Qq (Fr.dv_lt hf.2 hK) (Fr.dv_lt hh.2 hK)) (by omega)))
 simp only[<-Zdv] at HAP;have HPO:=jq (show Qh (Qd (f.rat-h.rat)) w=fun e w'=>e=.returned (Qj (Qd (f.rat-h.rat)))/\Below w.1.size w w' from rfl);generalize Qh (Qd (f.rat-h.rat)) w=post at*;generalize Qd (f.rat-h.rat)=res at*;have H3:=jq (Fr3.new w f h);have HP:=jq hp;obtain⟨x0,x1,y0,y1⟩:=H3.out.held
 clear hp hf hh;unfold Qj at*
 unfold S at*
 go_enter Tryz.func80,Tryz.ntmps80
 go_upto_region 1 with (fail)
 generalize (((w.alloc (.cells #[.string ⟨f.n.toArray⟩,.string ⟨f.d.toArray⟩] 28)).alloc (.cells #[.string ⟨h.n.toArray⟩,.string ⟨h.d.toArray⟩] 28)).alloc (.cells #[.string ⟨#[]⟩,.string ⟨#[]⟩] 28))=W at*
 go_region_held3 (fun w'=>w'.cell? ⟨w.1.size,0,none⟩=some (.string ⟨f.n.toArray⟩)/\w'.cell? ⟨w.1.size,1,none⟩=some (.string ⟨f.d.toArray⟩)/\w'.cell? ⟨w.1.size+1,0,none⟩=some (.string ⟨h.n.toArray⟩)/\w'.cell? ⟨w.1.size+1,1,none⟩=some (.string ⟨h.d.toArray⟩))
  (first
    |exact(H3.out.here hz2).heldS _ _
    |exact(H3.out.here hz2).held
    |exact(H3.out.here hz).held
    |go_keep)
  (first
    |(go_at_call 57;refine(Zbg _).mono ?_;rintro e w1 ⟨p,rfl,hlt,hc,hb1⟩;have hz:Below W.1.size W w1:=(Below.refl _ W).drew.trans hb1;have hix:=Ze8 p w1)
    |(go_at_call 56;refine(HAP.out p _ hlt hc (HP.out.here (H3.out.here hz).bl)).mono ?_;rintro e w2 ⟨rfl,hb2⟩;unfold Qj S;have hz2:=hz.trans (hb2.mono hz.size);have z0:=(H3.out.here hz2).c.cells.1;have z1:=(H3.out.here hz2).c.cells.2;have f0:=(H3.out.here hz2).c.frozen 0;have f1:=(H3.out.here hz2).c.frozen 1))
 all_goals
  go_wp2_with fail
  refine bodyPost_ret (v:=.agg #[.string ⟨res.n.toArray⟩,.string ⟨res.d.toArray⟩]) (by simp[results,Tryz.results80,go_sem,z0,z1]) rfl ?_;rw[HPO.out];exact⟨rfl,((H3.out.here hz2).bl.setCell (p:=⟨w.1.size+1+1,0,none⟩) (by simp only;omega) _).setCell (p:=⟨w.1.size+1+1,1,none⟩) (by simp only;omega) _⟩
theorem JH(f h:Fr)(w:World)(hp:Pow w)(hf:f.Sz 20000)(hh:h.Sz 20000):Calls Tryz.prog 23 #[Qj f,Qj h] w (Qh (Qd (f.rat*h.rat)) w):=by
 have HAP:=jq (fun p W hlt hc hpw=>by
  obtain⟨K,hKe⟩:∃K:Nat,K=20000:=⟨_,rfl⟩
  rw[<-hKe] at hf hh;have hK:1<=K:=by omega
  exact VH 102 _ Zi1 p f h W hlt hc hpw (by rw[<-hKe];exact hf) (by rw[<-hKe];exact hh) (Int.mul_ne_zero f.dv_ne h.dv_ne) (VI (Qq (QV hf.1) (QV hh.1)) (by omega)) (VI (Qq (Fr.dv_lt hf.2 hK) (Fr.dv_lt hh.2 hK)) (by omega)))
 simp only[<-ZgE] at HAP;have HPO:=jq (show Qh (Qd (f.rat*h.rat)) w=fun e w'=>e=.returned (Qj (Qd (f.rat*h.rat)))/\Below w.1.size w w' from rfl);generalize Qh (Qd (f.rat*h.rat)) w=post at*;generalize Qd (f.rat*h.rat)=res at*;have H3:=jq (Fr3.new w f h);have HP:=jq hp;obtain⟨x0,x1,y0,y1⟩:=H3.out.held
 clear hp hf hh;unfold Qj at*
 unfold S at*
 go_enter Tryz.func23,Tryz.ntmps23
 go_upto_region 1 with (fail)
 generalize (((w.alloc (.cells #[.string ⟨f.n.toArray⟩,.string ⟨f.d.toArray⟩] 28)).alloc (.cells #[.string ⟨h.n.toArray⟩,.string ⟨h.d.toArray⟩] 28)).alloc (.cells #[.string ⟨#[]⟩,.string ⟨#[]⟩] 28))=W at*
 go_region_held3 (fun w'=>w'.cell? ⟨w.1.size,0,none⟩=some (.string ⟨f.n.toArray⟩)/\w'.cell? ⟨w.1.size,1,none⟩=some (.string ⟨f.d.toArray⟩)/\w'.cell? ⟨w.1.size+1,0,none⟩=some (.string ⟨h.n.toArray⟩)/\w'.cell? ⟨w.1.size+1,1,none⟩=some (.string ⟨h.d.toArray⟩))
  (first
    |exact(H3.out.here hz2).heldS _ _
    |exact(H3.out.here hz2).held
    |exact(H3.out.here hz).held
    |go_keep)
  (first
    |(go_at_call 57;refine(Zbg _).mono ?_;rintro e w1 ⟨p,rfl,hlt,hc,hb1⟩;have hz:Below W.1.size W w1:=(Below.refl _ W).drew.trans hb1;have hix:=Ze9 p w1)
    |(go_at_call 56;refine(HAP.out p _ hlt hc (HP.out.here (H3.out.here hz).bl)).mono ?_;rintro e w2 ⟨rfl,hb2⟩;unfold Qj S;have hz2:=hz.trans (hb2.mono hz.size);have z0:=(H3.out.here hz2).c.cells.1;have z1:=(H3.out.here hz2).c.cells.2;have f0:=(H3.out.here hz2).c.frozen 0;have f1:=(H3.out.here hz2).c.frozen 1))
 all_goals
  go_wp2_with fail
  refine bodyPost_ret (v:=.agg #[.string ⟨res.n.toArray⟩,.string ⟨res.d.toArray⟩]) (by simp[results,Tryz.results23,go_sem,z0,z1]) rfl ?_;rw[HPO.out];exact⟨rfl,((H3.out.here hz2).bl.setCell (p:=⟨w.1.size+1+1,0,none⟩) (by simp only;omega) _).setCell (p:=⟨w.1.size+1+1,1,none⟩) (by simp only;omega) _⟩
end
end Go.Proofs.YtokjnjdbnabchaaGreatDoor
