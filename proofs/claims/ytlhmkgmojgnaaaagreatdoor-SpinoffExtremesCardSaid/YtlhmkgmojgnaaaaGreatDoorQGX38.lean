/- Sc. -/
import Derived.Test.YtlhmkgmojgnaaaaGreatDoorQGX28
import Derived.Test.YtlhmkgmojgnaaaaGreatDoorQGX37
set_option maxRecDepth 20000
set_option maxHeartbeats 1000000
namespace Go.Proofs.YtlhmkgmojgnaaaaGreatDoor
open Go.Lib renaming hid→jq
section
open Go.RowKit Go.Shelf
theorem Zjb(a b:Int)(bl:Nat)(w:World)(h0:w.cell? ⟨bl,0,none⟩=some (.int .i64 a))(h1:w.cell? ⟨bl,1,none⟩=some (.int .i64 b)):Calls Tryz.prog 97 #[.slice (some ⟨bl,0,none⟩) 2 2] w fun e w'=>e=.returned (.int .i64 (if a≠0 then a else b))/\Below w.1.size w w':=by
 have HR:=jq (show ∀r:Int,(a≠0->r=a)->(a=0->r=b)->(if a≠0 then a else b)=r by
  intro r h1 h2
  by_cases h:a=0
  ·rw[if_neg (by simp[h]),h2 h]
  ·rw[if_pos h,h1 h])
 generalize (if a≠0 then a else b)=res at*;have HB:=jq (Below.refl w.1.size w);go_enter Tryz.func97,Tryz.ntmps97
 go_wp2_with fail
 go_loop [8] (fun i=>∃k:Nat,k<=2/\i=.int .i64 k/\Hid (1<=k->a=0)/\Hid (2<=k->b=0)) (fun i=>2-(intOf i).toNat)
 case atStart=>exact⟨0,by omega,rfl,fun h=>by omega,fun h=>by omega⟩
 case round=>
  obtain⟨k,hk,rfl,HA,HBB⟩:=hrel
  by_cases hlt:k<2
  ·obtain rfl|rfl:k=0\/k=1:=by omega
   ·by_cases ha:a=0
    ·have hx:(a !=0)=false:=by simp[ha]
     have HA0:=jq ha;clear ha HA HBB hk hlt
     go_wp2
     go_round
     case rel=>exact⟨1,by omega,by go_num,fun _=>HA0.out,fun h=>by omega⟩
     case measure=>simp[intOf]
    ·have hx:(a !=0)=true:=by simp[ha]
     have HE:=jq (HR.out a (fun _=>rfl) (fun h=>absurd h ha));clear ha HA HBB hk hlt
     go_wp2
     go_ret
     exact⟨Qc HE.out.symm,HB.out⟩
   ·have HA0:=jq (HA.out (by omega))
    by_cases hb:b=0
    ·have hx:(b !=0)=false:=by simp[hb]
     have HB0:=jq hb;clear hb HA HBB hk hlt
     go_wp2
     go_round
     case rel=>exact⟨2,by omega,by go_num,fun _=>HA0.out,fun _=>HB0.out⟩
     case measure=>simp[intOf]
    ·have hx:(b !=0)=true:=by simp[hb]
     have HE:=jq (HR.out b (fun h=>absurd HA0.out h) (fun _=>rfl));clear hb HA HBB hk hlt
     go_wp2
     go_ret
     exact⟨Qc HE.out.symm,HB.out⟩
  ·obtain rfl:k=2:=by omega
   have HE:=jq (HR.out 0 (fun h=>absurd (HA.out (by omega)) h) (fun _=>(HBB.out (by omega)).symm));clear HA HBB hk hlt
   go_wp2
   go_ret
   exact⟨Qc HE.out.symm,HB.out⟩
theorem Zjc(a b:Int)(w:World):Calls Tryz.prog 97 #[.slice (some ⟨w.1.size,0,none⟩) 2 2] (w.alloc (.cells #[.int .i64 a,.int .i64 b] 3)) fun e w'=>e=.returned (.int .i64 (if a≠0 then a else b))/\Below w.1.size w w':=by
 have hb:=heap_alloc_new w (.cells #[.int .i64 a,.int .i64 b] 3);refine(Zjb a b w.1.size _ (cell_of_row _ _ 0 _ _ _ hb) (cell_of_row _ _ 1 _ _ _ hb)).mono ?_;rintro e w' ⟨he,h⟩;exact⟨he,((Below.refl w.1.size w).alloc (Nat.le_refl _) _).trans (h.mono (by simp))⟩
theorem Zhl(rs:List Int)(n R X:Nat)(i k:Nat)(hi:i<n)(hk:k<n)(_hn:n<=100000)(W:World)(hX:W.cell? ⟨X,0,none⟩=some (.slice (some ⟨R,0,none⟩) n n))(hR:∀j,j<n->W.cell? ⟨R,j,none⟩=some (.string ⟨(Qa (rs.getD j 0)).toArray⟩))(hl:∀j,(Qa (rs.getD j 0)).length<=100000):
 Calls Tryz.prog 96 (#[.int .i64 i,.int .i64 k]++#[.pointer (some ⟨X,0,none⟩)]) W fun e w'=>e=.returned (.int .i64 (ZfA rs i k))/\Below W.1.size W w':=by
 have HCM:=jq (fun w=>Qy (Qa (rs.getD k 0)) (Qa (rs.getD i 0)) w (hl k) (hl i));rw[Qd,Qd] at HCM;have HCC:=jq (fun w=>Tryz.cmp_Compare_int i k w);have HRE:=jq (show(if QC (rs.getD k 0-rs.getD i 0)≠0 then QC (rs.getD k 0-rs.getD i 0) else Lib.compareInt i k)=ZfA rs i k from rfl);have HON:=jq (fun w=>Zjc (QC (rs.getD k 0-rs.getD i 0)) (Lib.compareInt i k) w);rw[HRE.out] at HON;generalize ZfA rs i k=res at*;have z1:=hR i hi;have z2:=hR k hk
 have HZ:=jq (show ∀w',Below W.1.size W w'->w'.cell? ⟨X,0,none⟩=some (.slice (some ⟨R,0,none⟩) n n)/\w'.cell? ⟨R,i,none⟩=some (.string ⟨(Qa (rs.getD i 0)).toArray⟩)/\w'.cell? ⟨R,k,none⟩=some (.string ⟨(Qa (rs.getD k 0)).toArray⟩) from
  fun w' hb=>⟨(hb.cell (World.block_lt_of_cell? W _ hX)).trans hX,(hb.cell (World.block_lt_of_cell? W _ z1)).trans z1,(hb.cell (World.block_lt_of_cell? W _ z2)).trans z2⟩)
 generalize QC (rs.getD k 0-rs.getD i 0)=aa at*;generalize Lib.compareInt (i:Int) (k:Int)=bb at*;generalize Qa (rs.getD i 0)=ti at*;generalize Qa (rs.getD k 0)=tk at*;clear hR hl HRE;have HB:=jq (Below.refl W.1.size W);have i1:(0:Int)<=(i:Int):=by omega
 have i2:(i:Int)<(n:Int):=by omega
 have k1:(0:Int)<=(k:Int):=by omega
 have k2:(k:Int)<(n:Int):=by omega
 show Calls _ _ #[.int .i64 i,.int .i64 k,.pointer (some ⟨X,0,none⟩)] _ _
 go_enter Tryz.func96,Tryz.ntmps96
 go_upto_region 1 with (fail)
 go_region_held3 (fun w'=>w'.cell? ⟨X,0,none⟩=some (.slice (some ⟨R,0,none⟩) n n)/\w'.cell? ⟨R,i,none⟩=some (.string ⟨ti.toArray⟩)/\w'.cell? ⟨R,k,none⟩=some (.string ⟨tk.toArray⟩))
  (first
    |exact HZ.out _ hz2
    |exact HZ.out _ hz
    |exact HZ.out _ (HB.out.alloc (Nat.le_refl _) _)
    |go_keep)
  (first
    |(go_at_call 37;refine(HCM.out _).mono ?_;rintro e w1 ⟨rfl,hb1⟩;have hz:Below W.1.size W w1:=HB.out.drew.trans hb1)
    |(go_at_call 98;refine(HCC.out _).mono ?_;rintro e w2 ⟨rfl,rfl⟩)
    |(go_at_call 97;refine(HON.out _).mono ?_;rintro e w3 ⟨rfl,hb3⟩;have hz2:Below W.1.size W w3:=hz.trans (hb3.mono hz.size)))
 all_goals
  go_wp2_with fail
  first|go_ret|skip
  exact⟨rfl,hz2⟩
end
end Go.Proofs.YtlhmkgmojgnaaaaGreatDoor
