/- Fa0, Gr1, Fn. -/
import Derived.Test.YtkddgeclncafoaaGreatDoorQGEn32
import Derived.Test.YtkddgeclncafoaaGreatDoorQGEn31
import Derived.Deep.DrawnRows
import Derived.StillTail
import Derived.Laws.IdiomRangeMap
set_option maxRecDepth 100000
set_option maxHeartbeats 4000000
namespace Go.Proofs.YtkddgeclncafoaaGreatDoor
open Go.Lib renaming hid→jq
open Go.RowKit Go.Shelf
section
attribute [local go_sem] Oper.semAt_some
attribute [local go_sem ↓] Go.wp_at_zero Go.wp_at_succ
theorem Zg1(a:List UInt8):((Lib.trimPrefix a [45]).length:Int)=(XZ a:Int):=by
 unfold Lib.trimPrefix XZ Lib.hasPrefix
 cases a with
 |nil=>rfl
 |cons b l=>
  by_cases h:b=45
  ·subst h;simp[List.isPrefixOf]
  ·have h':¬45=b:=fun e=>h e.symm
   simp[List.isPrefixOf,h,h']
theorem ZdO(a:List UInt8)(w:World):Calls Tryz.prog 223 #[S a] w fun e w'=>e=.returned (.int .i64 (XZ a:Int))/\w'=w:=by
 have HT:=jq (fun W=>Tryz.strings_TrimPrefix ⟨a.toArray⟩ ⟨#[45]⟩ W);have HE:=jq (Zg1 a);have e1:(⟨a.toArray⟩:ByteArray).data.toList=a:=rfl;have e2:(⟨#[45]⟩:ByteArray).data.toList=[45]:=rfl;rw[e1,e2] at HT;clear e1 e2;unfold S;go_enter Tryz.func223,Tryz.ntmps223
 go_wp2_with fail
 refine(HT.out _).mono ?_;rintro e w1 ⟨rfl,rfl⟩;go_wp2_with fail
 first|go_ret|skip
 exact⟨Qb HE.out,rfl⟩
theorem VG(p q:Bool)(w:World):
 Calls Tryz.prog 182 #[.bool p,.bool q] w fun e w'=>e=.returned (.func (.func 222) #[] #[.pointer (some ⟨w.1.size,0,none⟩),.pointer (some ⟨w.1.size+1,0,none⟩)])/\w'=(w.alloc (.cells #[.bool p] 4)).alloc (.cells #[.bool q] 4):=by
 go_enter Tryz.func182,Tryz.ntmps182
 go_wp2
 go_ret
 exact⟨rfl,rfl⟩
def LimV(W:World)(v:Value)(pos part:Bool):Prop:=∃b1 b2,v=.func (.func 222) #[] #[.pointer (some ⟨b1,0,none⟩),.pointer (some ⟨b2,0,none⟩)]/\Box W b1 4 (.bool pos)/\Box W b2 4 (.bool part)
theorem LimV.here{W W':World}{v:Value}{p q:Bool}(h:LimV W v p q)(hb:Below W.1.size W W'):LimV W' v p q:=by
 obtain⟨b1,b2,e,h1,h2⟩:=h
 exact⟨b1,b2,e,h1.here hb,h2.here hb⟩
theorem LimV.grown{W W':World}{v:Value}{p q:Bool}{r:Nat}(h:LimV W v p q)(hg:W.grownBy W' (some r))(hr:∀cs T f,W.heap[r]?≠some (.cells cs T f)):LimV W' v p q:=by
 obtain⟨b1,b2,e,h1,h2⟩:=h
 refine⟨b1,b2,e,h1.grown hg (fun e=> ?_),h2.grown hg (fun e=> ?_)⟩
 ·injection e with e;subst e;exact hr _ _ _ h1
 ·injection e with e;subst e;exact hr _ _ _ h2
theorem ZiJ(x y:Rat):(QK x y= -1/\x<y)\/(QK x y=0/\x=y)\/(QK x y=1/\y<x):=by
 unfold QK
 by_cases h1:x<y
 ·rw[if_pos h1];exact .inl ⟨rfl,h1⟩
 ·rw[if_neg h1]
  by_cases h2:y<x
  ·rw[if_pos h2];exact .inr (.inr ⟨rfl,h2⟩)
  ·rw[if_neg h2];exact .inr (.inl ⟨rfl,Rat.le_antisymm (Rat.not_lt.1 h2) (Rat.not_lt.1 h1)⟩)
theorem ZnY:Qd (1:Rat)=⟨[49],[]⟩:=by
 unfold Qd;rw[if_pos (by rfl),show((1:Rat).num)=1 from rfl,Za4]
theorem Zbz(pos part:Bool)(f:Fr)(b1 b2:Nat)(w:World)(hp:Env w)(hf:f.Sz 1000)(h1:Box w b1 4 (.bool pos))(h2:Box w b2 4 (.bool part)):
 Calls Tryz.prog 222 #[Qq f,.pointer (some ⟨b1,0,none⟩),.pointer (some ⟨b2,0,none⟩)] w fun e w'=>e=.returned (.int .i64 (Qx pos part f))/\Below w.1.size w w':=by
 have H:=jq ((Kp.start hp).new w.1.size rfl #[.string ⟨f.n.toArray⟩,.string ⟨f.d.toArray⟩] 26);have HD:=jq (show ∀W',Below w.1.size w W'->W'.cell? ⟨b1,0,none⟩=some (.bool pos)/\W'.cell? ⟨b2,0,none⟩=some (.bool part) from fun W' hb=>⟨(h1.here hb).cell,(h2.here hb).cell⟩);have HC0:=jq (fun W hp=>Ye f Fr.zero W hp (hf.more (by omega)) ⟨by simp[Fr.zero],by simp[Fr.zero]⟩);rw[VX] at HC0;have HC1:=jq (fun W hp=>Ye f (Qd (1:Rat)) W hp (hf.more (by omega)) (by rw[ZnY];exact⟨by simp,by simp⟩));rw[Qj] at HC1;have HOF:=jq (fun W hp=>Zch [49] W hp (by simp));rw[XS] at HOF;have HCK:=jq (fun W hp=>ZaN f W hp (hf.more (by omega)));have HN:=jq (fun W=>ZdO f.n W);have HDD:=jq (fun W=>ZdO f.d W);have HR:=jq (show Qx pos part f=if ¬f.ok then 1 else if 40<XZ f.n\/40<XZ f.d then 4 else if f.rat<0\/(pos=true/\f.rat=0)\/(part=true/\1<f.rat) then 2 else 0 from rfl);have HK:=jq (show Vb f=if f.ok then 0 else 1 from rfl);have HSG:=jq (ZiJ f.rat 0);have HSH:=jq (ZiJ f.rat 1);obtain⟨y0,y1⟩:=HD.out _ H.out.bl
 have x0:=H.out.c 0 0 rfl rfl;have x1:=H.out.c 0 1 rfl rfl;clear hp hf h1 h2;generalize Qx pos part f=res at*;generalize XZ f.n=dn at*;generalize XZ f.d=dd at*;generalize Qd (1:Rat)=one at*;generalize Vb f=ck at*;generalize hsg:QK f.rat 0=sg at*;generalize hsh:QK f.rat 1=sh at*;clear hsg hsh;unfold Qq at*
 unfold S at*
 go_enter Tryz.func222,Tryz.ntmps222
 go_wp2_with fail
 generalize w.alloc _=W0 at*;refine(HC0.out _ H.out.po).mono ?_;rintro e w1 ⟨rfl,hb1⟩;replace H:=jq (H.out.here hb1);clear hb1 x0 x1 y0 y1;have x0:w1.cell? ⟨w.1.size,0,none⟩=some (.string ⟨f.n.toArray⟩):=H.out.c 0 0 rfl rfl;have x1:w1.cell? ⟨w.1.size,1,none⟩=some (.string ⟨f.d.toArray⟩):=H.out.c 0 1 rfl rfl;go_wp2_with fail
 refine(HCK.out _ H.out.po).mono ?_;rintro e w2 ⟨rfl,hb2⟩;replace H:=jq (H.out.here hb2);clear hb2 x0 x1;have x0:w2.cell? ⟨w.1.size,0,none⟩=some (.string ⟨f.n.toArray⟩):=H.out.c 0 0 rfl rfl;have x1:w2.cell? ⟨w.1.size,1,none⟩=some (.string ⟨f.d.toArray⟩):=H.out.c 0 1 rfl rfl;obtain⟨y0,y1⟩:=HD.out _ H.out.bl
 by_cases hok:f.ok
 ·rw[if_pos hok] at HK;rw[if_neg (not_not_intro hok)] at HR;obtain rfl:ck=0:=HK.out
  by_cases h40:40<dn
  ·rw[if_pos (.inl h40)] at HR;have h40':(40:Int)<(dn:Int):=by omega
   clear h40 hok;go_wp2_with fail
   refine(HN.out _).mono ?_;rintro e w3 ⟨rfl,rfl⟩;go_wp2_with fail
   first|go_ret|skip
   exact⟨Qb HR.out.symm,H.out.bl⟩
  ·have h40':¬(40:Int)<(dn:Int):=by omega
   by_cases h41:40<dd
   ·rw[if_pos (.inr h41)] at HR;have h41':(40:Int)<(dd:Int):=by omega
    clear h40 h41 hok;go_wp2_with fail
    refine(HN.out _).mono ?_;rintro e w3 ⟨rfl,rfl⟩;go_wp2_with fail
    refine(HDD.out _).mono ?_;rintro e w3 ⟨rfl,rfl⟩;go_wp2_with fail
    first|go_ret|skip
    exact⟨Qb HR.out.symm,H.out.bl⟩
   ·have h41':¬(40:Int)<(dd:Int):=by omega
    rw[if_neg (by omega)] at HR;clear h40 h41 hok;go_wp2_with fail
    refine(HN.out _).mono ?_;rintro e w3 ⟨rfl,rfl⟩;go_wp2_with fail
    refine(HDD.out _).mono ?_;rintro e w3 ⟨rfl,rfl⟩
    rcases HSG.out with ⟨rfl,hs⟩|⟨rfl,hs⟩|⟨rfl,hs⟩
    ·rw[if_pos (.inl hs)] at HR;clear hs;go_upto_region 6 with (fail)
     go_region
     all_goals
      go_wp2_with fail
      first|go_ret|skip
      exact⟨Qb HR.out.symm,H.out.bl.drew⟩
    ·cases pos with
     |true=>
      rw[if_pos (.inr (.inl ⟨rfl,hs⟩))] at HR;clear hs;go_upto_region 6 with (fail)
      go_region
      all_goals
       go_wp2_with fail
       first|go_ret|skip
       exact⟨Qb HR.out.symm,H.out.bl.drew⟩
     |false=>
      cases part with
      |false=>
       rw[if_neg (by rw[hs];simp[Rat.lt_irrefl])] at HR;clear hs;go_upto_region 6 with (fail)
       go_region
       all_goals
        go_wp2_with fail
        first|go_ret|skip
        exact⟨Qb HR.out.symm,H.out.bl.drew⟩
      |true=>
       have h01:¬(1:Rat)<f.rat:=by rw[hs];decide+kernel
       rw[if_neg (by rw[hs];simp[Rat.lt_irrefl];decide+kernel)] at HR
       rcases HSH.out with ⟨rfl,ht⟩|⟨rfl,ht⟩|⟨rfl,ht⟩
       ·clear hs ht h01;go_upto_region 6 with (fail)
        first
         |(go_region_with
            (first
              |(go_at_call 25;refine(HOF.out _ H.out.drew.po).mono ?_;rintro e v2 ⟨rfl,hb2⟩;unfold Qq S;have hz:Below w3.1.size w3 v2:=(Below.refl _ w3).drew.trans hb2;have k0:v2.cell? ⟨w.1.size,0,none⟩=some (.string ⟨f.n.toArray⟩):=(H.out.here hz).c 0 0 rfl rfl;have k1:v2.cell? ⟨w.1.size,1,none⟩=some (.string ⟨f.d.toArray⟩):=(H.out.here hz).c 0 1 rfl rfl)
              |(go_at_call 41;refine(HC1.out _ (H.out.here hz).po).mono ?_;rintro e v3 ⟨rfl,hb3⟩;have hz2:Below w3.1.size w3 v3:=hz.trans (hb3.mono hz.size))))
         |fail
        all_goals
         go_wp2_with fail
         first|go_ret|skip
         exact⟨Qb HR.out.symm,(H.out.here hz2).bl⟩
       ·rw[hs] at ht;exact absurd ht (by decide+kernel)
       ·exact absurd ht h01
    ·have h0:¬(f.rat<0):=Rat.not_lt.2 (Rat.le_of_lt hs);have h1:¬(f.rat=0):=fun e=>by rw[e] at hs;exact Rat.lt_irrefl hs
     cases part with
     |false=>
      rw[if_neg (by simp[h0,h1])] at HR;clear hs h0 h1
      cases pos
      all_goals
       go_upto_region 6 with (fail)
       go_region
       all_goals
        go_wp2_with fail
        first|go_ret|skip
        exact⟨Qb HR.out.symm,H.out.bl.drew⟩
     |true=>
      have HE:=jq (show res=if 0<sh then 2 else 0 by
       rw[HR.out]
       rcases HSH.out with ⟨rfl,ht⟩|⟨rfl,ht⟩|⟨rfl,ht⟩
       ·rw[if_neg (by simp[h0,h1];exact Rat.not_lt.2 (Rat.le_of_lt ht)),if_neg (by omega)]
       ·rw[if_neg (by simp[ht];decide+kernel),if_neg (by omega)]
       ·rw[if_pos (.inr (.inr ⟨rfl,ht⟩)),if_pos (by omega)])
      clear hs h0 h1 HR HSH
      by_cases hsh:0<sh
      ·rw[if_pos hsh] at HE;have HR:=jq HE.out;clear HE
       cases pos
       ·go_upto_region 6 with (fail)
        first
         |(go_region_with
            (first
              |(go_at_call 25;refine(HOF.out _ H.out.drew.po).mono ?_;rintro e v2 ⟨rfl,hb2⟩;unfold Qq S;have hz:Below w3.1.size w3 v2:=(Below.refl _ w3).drew.trans hb2;have k0:v2.cell? ⟨w.1.size,0,none⟩=some (.string ⟨f.n.toArray⟩):=(H.out.here hz).c 0 0 rfl rfl;have k1:v2.cell? ⟨w.1.size,1,none⟩=some (.string ⟨f.d.toArray⟩):=(H.out.here hz).c 0 1 rfl rfl)
              |(go_at_call 41;refine(HC1.out _ (H.out.here hz).po).mono ?_;rintro e v3 ⟨rfl,hb3⟩;have hz2:Below w3.1.size w3 v3:=hz.trans (hb3.mono hz.size))))
         |fail
        all_goals
         go_wp2_with fail
         first|go_ret|skip
         exact⟨Qb HR.out.symm,(H.out.here hz2).bl⟩
       ·go_upto_region 6 with (fail)
        first
         |(go_region_with
            (first
              |(go_at_call 25;refine(HOF.out _ H.out.drew.po).mono ?_;rintro e v2 ⟨rfl,hb2⟩;unfold Qq S;have hz:Below w3.1.size w3 v2:=(Below.refl _ w3).drew.trans hb2;have k0:v2.cell? ⟨w.1.size,0,none⟩=some (.string ⟨f.n.toArray⟩):=(H.out.here hz).c 0 0 rfl rfl;have k1:v2.cell? ⟨w.1.size,1,none⟩=some (.string ⟨f.d.toArray⟩):=(H.out.here hz).c 0 1 rfl rfl)
              |(go_at_call 41;refine(HC1.out _ (H.out.here hz).po).mono ?_;rintro e v3 ⟨rfl,hb3⟩;have hz2:Below w3.1.size w3 v3:=hz.trans (hb3.mono hz.size))))
         |fail
        all_goals
         go_wp2_with fail
         first|go_ret|skip
         exact⟨Qb HR.out.symm,(H.out.here hz2).bl⟩
      ·rw[if_neg hsh] at HE;have HR:=jq HE.out;clear HE
       cases pos
       ·go_upto_region 6 with (fail)
        first
         |(go_region_with
            (first
              |(go_at_call 25;refine(HOF.out _ H.out.drew.po).mono ?_;rintro e v2 ⟨rfl,hb2⟩;unfold Qq S;have hz:Below w3.1.size w3 v2:=(Below.refl _ w3).drew.trans hb2;have k0:v2.cell? ⟨w.1.size,0,none⟩=some (.string ⟨f.n.toArray⟩):=(H.out.here hz).c 0 0 rfl rfl;have k1:v2.cell? ⟨w.1.size,1,none⟩=some (.string ⟨f.d.toArray⟩):=(H.out.here hz).c 0 1 rfl rfl)
              |(go_at_call 41;refine(HC1.out _ (H.out.here hz).po).mono ?_;rintro e v3 ⟨rfl,hb3⟩;have hz2:Below w3.1.size w3 v3:=hz.trans (hb3.mono hz.size))))
         |fail
        all_goals
         go_wp2_with fail
         first|go_ret|skip
         exact⟨Qb HR.out.symm,(H.out.here hz2).bl⟩
       ·go_upto_region 6 with (fail)
        first
         |(go_region_with
            (first
              |(go_at_call 25;refine(HOF.out _ H.out.drew.po).mono ?_;rintro e v2 ⟨rfl,hb2⟩;unfold Qq S;have hz:Below w3.1.size w3 v2:=(Below.refl _ w3).drew.trans hb2;have k0:v2.cell? ⟨w.1.size,0,none⟩=some (.string ⟨f.n.toArray⟩):=(H.out.here hz).c 0 0 rfl rfl;have k1:v2.cell? ⟨w.1.size,1,none⟩=some (.string ⟨f.d.toArray⟩):=(H.out.here hz).c 0 1 rfl rfl)
              |(go_at_call 41;refine(HC1.out _ (H.out.here hz).po).mono ?_;rintro e v3 ⟨rfl,hb3⟩;have hz2:Below w3.1.size w3 v3:=hz.trans (hb3.mono hz.size))))
         |fail
        all_goals
         go_wp2_with fail
         first|go_ret|skip
         exact⟨Qb HR.out.symm,(H.out.here hz2).bl⟩
 ·rw[if_neg hok] at HK;rw[if_pos hok] at HR;obtain rfl:ck=1:=HK.out;clear hok;go_wp2_with fail
  first|go_ret|skip
  exact⟨Qb HR.out.symm,H.out.bl⟩
end
section
attribute [local go_sem ↓] Go.wp_at_zero Go.wp_at_succ
def lgF(f:Fr):Bool:=decide (13<f.n.length)||decide (13<f.d.length)
theorem Vf{f:Fr}(h:lgF f=false):f.Sz 13:=by
 unfold lgF at h;simp at h;exact⟨by omega,by omega⟩
theorem Zg2(A:Option Addr)(n c:Nat)(xs:List Fr)(w:World)(hs:Frs w w.1.size A n xs)(hn:n<=1000000000):Calls Tryz.prog 81 #[.slice A n c] w fun e w'=>e=.returned (.bool (xs.any lgF))/\w'=w:=by
 have HS:=jq hs;have HNX:=jq hs.1;clear hs;go_enter Tryz.func81,Tryz.ntmps81
 go_wp2_with fail
 go_loopw [3] (fun i wr=>∃k:Nat,k<=n/\i=.int .i64 k/\Hid ((xs.take k).any lgF=false)/\wr=w) (fun i _=>n-(intOf i).toNat)
 case atStart=>exact⟨0,Nat.zero_le _,rfl,(show _=_ by simp),rfl⟩
 case round=>
  obtain⟨k,hk,rfl,HAN,rfl⟩:=hrel
  by_cases hlt:k<n
  ·obtain⟨b,off,f,rfl,hb,hx,d0,d1⟩:=HS.out.fr hlt
   have HX:=jq hx;clear hx;have HG:=jq (show lgF f=(decide (13<f.n.length)||decide (13<f.d.length)) from rfl)
   by_cases h1:13<f.n.length
   ·rw[decide_eq_true h1,Bool.true_or] at HG;have a1:(13:Int)<(f.n.length:Int):=by omega
    clear h1;go_wp2_with fail
    go_ret
    exact⟨Qe (List.any_eq_true.2 ⟨f,List.mem_of_getElem? HX.out,HG.out⟩).symm,rfl⟩
   ·rw[decide_eq_false h1,Bool.false_or] at HG;have a1:¬(13:Int)<(f.n.length:Int):=by omega
    clear h1
    by_cases h2:13<f.d.length
    ·rw[decide_eq_true h2] at HG;have a2:(13:Int)<(f.d.length:Int):=by omega
     clear h2;go_wp2_with fail
     go_ret
     exact⟨Qe (List.any_eq_true.2 ⟨f,List.mem_of_getElem? HX.out,HG.out⟩).symm,rfl⟩
    ·rw[decide_eq_false h2] at HG;have a2:¬(13:Int)<(f.d.length:Int):=by omega
     clear h2;go_wp2_with fail
     go_roundw
     case rel=>exact⟨k+1,by omega,by go_num,VR HX.out HAN.out HG.out,by first|rfl|trivial⟩
     case measure=>simp[intOf];omega
  ·go_wp2_with fail
   go_ret
   exact⟨Qe (by have h1:=HAN.out;have h2:=HNX.out;rw[List.take_of_length_le (by omega)] at h1;exact h1.symm),rfl⟩
theorem XY(f:Fr)(w:World):Calls Tryz.prog 36 #[Qq f] w fun e w'=>e=.returned (.bool (lgF f))/\Below w.1.size w w':=by
 have H1:BlkB (w.alloc (.cells #[.string ⟨f.n.toArray⟩,.string ⟨f.d.toArray⟩] 26)) w.1.size #[.string ⟨f.n.toArray⟩,.string ⟨f.d.toArray⟩] 26:=heap_alloc_new w _;have HB:=jq (show Below w.1.size w (w.alloc (.cells #[.string ⟨f.n.toArray⟩,.string ⟨f.d.toArray⟩] 26)) from Below.alloc (Below.refl _ w) (Nat.le_refl _) _);have x0:=H1.cell 0 (v:=.string ⟨f.n.toArray⟩) rfl;have x1:=H1.cell 1 (v:=.string ⟨f.d.toArray⟩) rfl
 have HL:=jq (show ∀W:World,Calls Tryz.prog 81 #[.slice (some ⟨W.1.size,0,none⟩) 1 1] (W.alloc (.cells #[.string ⟨f.n.toArray⟩,.string ⟨f.d.toArray⟩] 26)) fun e w'=>e=.returned (.bool (lgF f))/\w'=W.alloc (.cells #[.string ⟨f.n.toArray⟩,.string ⟨f.d.toArray⟩] 26) from fun W=>by
  have h1:Frs (W.alloc (.cells #[.string ⟨f.n.toArray⟩,.string ⟨f.d.toArray⟩] 26)) (W.1.size+1) (some ⟨W.1.size,0,none⟩) 1 [f]:=Sl.lit W _ 26 [f] rfl Zby;have:=Zg2 _ 1 1 [f] _ (h1.more (by simp)) (by omega)
  simpa using this)
 have HA:=jq (fun W:World=>show Below W.1.size W (W.alloc (.cells #[.string ⟨f.n.toArray⟩,.string ⟨f.d.toArray⟩] 26)) from Below.alloc (Below.refl _ W) (Nat.le_refl _) _);clear H1;generalize lgF f=res at*;unfold Qq S at*
 go_enter Tryz.func36,Tryz.ntmps36
 go_upto_region 1 with (fail)
 generalize w.alloc _=W at*;go_wp2_with fail
 refine(HL.out W).mono ?_;rintro e w1 ⟨rfl,rfl⟩;go_wp2_with fail
 first|go_ret|skip
 exact⟨rfl,HB.out.trans ((HA.out W).mono HB.out.size)⟩
end
section
attribute [local go_sem] Oper.semAt_some
attribute [local go_sem ↓] Go.wp_at_zero Go.wp_at_succ JL Zev
def LimI(W:World)(m:Int->Option Value)(nums:List (Nat×Bool×Bool)):Prop:=
 ∀k:Int,match nums.find? (fun x=>(x.1:Int)==k) with|some x=>∃v,m k=some v/\LimV W v x.2.1 x.2.2|none=>m k=none
def LimB(W:World)(b n:Nat)(nums:List (Nat×Bool×Bool)):Prop:=∃m,ImB W b n m/\LimI W m nums
theorem ImB.noCells{W:World}{b n:Nat}{m:Int->Option Value}(h:ImB W b n m)(cs:Array Value)(T:TypeId)(f:Nat×Nat):W.heap[b]?≠some (.cells cs T f):=by
 obtain⟨D,⟨es,clock,h1,h2⟩,h3⟩:=h
 rw[h1];intro e
 cases e
theorem LimI.here{W W':World}{m:Int->Option Value}{nums:List (Nat×Bool×Bool)}(h:LimI W m nums)(hb:∀v p q,LimV W v p q->LimV W' v p q):LimI W' m nums:=by
 intro k;have:=h k
 split<;>rename_i e<;>rw[e] at this
 ·obtain⟨v,h1,h2⟩:=this;exact⟨v,h1,hb _ _ _ h2⟩
 ·exact this
section
variable {W W':World} {b n r nn:Nat} {nums:List (Nat×Bool×Bool)} {m:Int->Option Value}
theorem LimB.lt(h:LimB W b n nums):b<W.1.size:=h.elim fun _ h=>h.1.lt
theorem LimB.here(h:LimB W b n nums)(hb:Below W.1.size W W'):LimB W' b n nums:=by
 obtain⟨m,h1,h2⟩:=h
 exact⟨m,h1.here hb,h2.here fun _ _ _ h=>h.here hb⟩
theorem LimB.grown(h:LimB W b n nums)(hr:ImB W r nn m)(hg:W.grownBy W' (some r))(hne:b≠r):LimB W' b n nums:=by
 obtain⟨m',h1,h2⟩:=h
 exact⟨m',h1.grown hg (fun e=>hne (by injection e)),h2.here fun _ _ _ h=>h.grown hg hr.noCells⟩
theorem Zd7(W:World):LimB (W.alloc (.map #[] 0)) W.1.size 0 []:=⟨_,Zin W,fun _=>rfl⟩
theorem LimB.put{i:Nat}{v:Value}{p q:Bool}(k0:Int)(h:LimB W b n nums)(hk0:k0=(i:Int))(hn:n<100)(hi:i<=12)(hv:LimV W v p q)(hx:nums.all (fun x=>x.1 !=i)=true):
 ∃W',(Instr.mapUpdate 139 (.map (some b)) (.int .i64 k0) v).run Tryz.prog W=.ok () W'/\LimB W' b (n+1) (nums++[(i,p,q)])/\W.grownBy W' (some b):=by
 subst hk0;obtain⟨m,h1,h2⟩:=h
 obtain⟨W',hr,h3,hg⟩:=h1.put (t:=139) (k:=(i:Int)) Tryz.underlying139 (by unfold maxLen;omega) (by omega) (by omega) v
 refine⟨W',hr,⟨_,h3,fun k=> ?_⟩,hg⟩;have h4:=(h2.here (W':=W') fun _ _ _ h=>h.grown hg h1.noCells) k;rw[List.find?_append]
 by_cases e:k=(i:Int)
 ·subst e
  have hf:nums.find? (fun x=>(x.1:Int)==(i:Int))=none:=by
   rw[List.find?_eq_none];intro x hx';have:=List.all_eq_true.1 hx x hx'
   simp only[bne_iff_ne,ne_eq] at this;simp only[beq_iff_eq];omega
  rw[hf,List.find?_cons_of_pos (by simp)];exact⟨v,by simp,hv.grown hg h1.noCells⟩
 ·rw[List.find?_cons_of_neg (by simp only[beq_iff_eq];omega),List.find?_nil];simp only[if_neg e]
  cases hf:nums.find? (fun x=>(x.1:Int)==k)<;>rw[hf] at h4<;>exact h4
end
def LimM(W:World)(mv:Value)(nums:List (Nat×Bool×Bool)):Prop:=(mv=.map none/\nums=[])\/∃b n,mv=.map (some b)/\LimB W b n nums
theorem LimM.here{W W':World}{mv:Value}{nums:List (Nat×Bool×Bool)}(h:LimM W mv nums)(hb:Below W.1.size W W'):LimM W' mv nums:=by
 rcases h with h|⟨b,n,e,h⟩
 ·exact .inl h
 ·exact .inr ⟨b,n,e,h.here hb⟩
def I1(n:Nat):List Value:=[.int .i64 (n:Int)]
theorem Zlx(n:Nat):(I1 n).length=1:=rfl
theorem Zni{W:World}{m:Int->Option Value}{nums:List (Nat×Bool×Bool)}(h:LimI W m nums){k:Int}{v:Value}(hk:m k=some v)(hn:∀x∈nums,x.1<=12):∃i:Nat,i<=12/\k=(i:Int):=by
 have:=h k
 cases hf:nums.find? (fun x=>(x.1:Int)==k) with
 |none=>rw[hf] at this;rw[this] at hk;cases hk
 |some x=>
  have h1:=List.mem_of_find?_eq_some hf;have h2:=List.find?_some hf;simp only[beq_iff_eq] at h2;exact⟨x.1,hn x h1,h2.symm⟩
theorem Znj{W:World}{m:Int->Option Value}{nums:List (Nat×Bool×Bool)}(h:LimI W m nums)(i:Nat):(m (i:Int)).isSome=nums.any (fun x=>x.1==i):=by
 have:=h (i:Int)
 cases hf:nums.find? (fun x=>(x.1:Int)==(i:Int)) with
 |none=>
  rw[hf] at this;rw[this,Option.isSome_none,eq_comm,List.any_eq_false];intro x hx hxi;have:=List.find?_eq_none.1 hf x hx
  simp only[beq_iff_eq] at this hxi;omega
 |some x=>
  rw[hf] at this;obtain⟨v,h1,_⟩:=this
  rw[h1,Option.isSome_some,eq_comm,List.any_eq_true];have h2:=List.find?_some hf;simp only[beq_iff_eq] at h2;exact⟨x,List.mem_of_find?_eq_some hf,by simp only[beq_iff_eq];omega⟩
theorem Zgd{nums:List (Nat×Bool×Bool)}{more:List Nat}{k x:Nat}(hx:more[k]?=some x)(j:Nat):
 (if j==x then true else(nums.any (fun y=>y.1==j)||(more.take k).contains j))=(nums.any (fun y=>y.1==j)||(more.take (k+1)).contains j):=by
 obtain⟨hk,rfl⟩:=List.getElem?_eq_some_iff.1 hx
 rw[List.take_succ_eq_append_getElem hk,List.contains_append]
 by_cases e:j=more[k]
 ·simp[e]
 ·simp[e]
theorem Znk{D:DataW Value}{left:Lit->Bool}{i j:Nat}(h:Maps.has D (.int .i64 (i:Int))=true):
 (if j==i then true else(Maps.has D (.int .i64 (j:Int))&& !left (.int .i64 (j:Int))))=(Maps.has D (.int .i64 (j:Int))&& !(left (.int .i64 (j:Int))&& !(Lit.int .i64 (j:Int)).sameKey (.int .i64 (i:Int)))):=by
 by_cases e:j=i
 ·subst e;rw[WideAt.sameKey_self (by simp[WideAt.IsKeyLit]),h];simp
 ·rw[Maps.sameKey_ne (fun h=>e (by injection h with _ h;omega))];simp[e]
theorem ZeY(w:World)(b i:Nat)(v:Value):w.grownBy (w.setCell ⟨b,i,none⟩ v) (some b):=
 ⟨rfl,rfl,rfl,by simp[World.setCell],fun k _ hk=>Below.heap_setCell w ⟨b,i,none⟩ v k (fun e=>hk (by rw[e]))⟩
theorem Kp.grow{w W W':World}{bs:List (Nat×Array Value×TypeId)}{p:Nat}(h:Kp w bs W)(hg:W.grownBy W' (some p))(hp:w.1.size<=p)(hne:∀b∈bs,b.1≠p):Kp w bs W':=
 ⟨h.pow,h.bl.trans ⟨hg.os,hg.tape,hg.output,hg.size,fun k hk=>hg.block k (by have:=h.bl.size;omega) (fun e=>by injection e with e;omega)⟩,h.own,h.ord,fun b hm=>(hg.block b.1 (h.blk b hm).lt (fun e=>hne b hm (by injection e))).trans (h.blk b hm)⟩
theorem Zck(word:List UInt8)(cls:Int)(o:Option Nat)(nums:List (Nat×Bool×Bool))(A:Option Addr)(n c:Nat)(more:List Nat)(w:World)(hp:Env w)(hm:LimM w (.map o) nums)(hn:∀x∈nums,x.1<=12)(hs:Sl I1 1 w w.1.size A n more)(hmo:∀x∈more,x<=12)(hl:n<=1000):
 Calls Tryz.prog 183 #[S word,.int .i64 cls,.map o,.slice A n c] w fun e w'=>e=.returned (.agg (kB word cls (fun i=>nums.any (fun x=>x.1==i)||more.contains i) (.map o) false))/\Below w.1.size w w':=by
 have hmc:(Value.map o).oneCell'=true:=rfl;have H1:=(Kp.start hp).new w.1.size rfl #[.string ⟨#[]⟩,.int .i64 0,.bool false,.bool false,.bool false,.bool false,.bool false,.bool false,.bool false,.bool false,.bool false,.bool false,.bool false,.bool false,.bool false,.map none,.bool false] 141;have H2:=H1.new (w.1.size+1) (by simp) #[.string ⟨#[]⟩,.int .i64 0,.bool false,.bool false,.bool false,.bool false,.bool false,.bool false,.bool false,.bool false,.bool false,.bool false,.bool false,.bool false,.bool false,.map none,.bool false] 141;have hst:=Zan (pb:=kB word cls (fun _=>false) (.map o) false) (H2.at_ 0 rfl) rfl rfl (Jn _ _ _ _ _ hmc);unfold kB at hst;have H3:=jq (show Kp w [(w.1.size+1,kB word cls (fun _=>false) (.map o) false,141),(w.1.size,#[.string ⟨#[]⟩,.int .i64 0,.bool false,.bool false,.bool false,.bool false,.bool false,.bool false,.bool false,.bool false,.bool false,.bool false,.bool false,.bool false,.bool false,.map none,.bool false],141)] (((w.alloc (.cells #[.string ⟨#[]⟩,.int .i64 0,.bool false,.bool false,.bool false,.bool false,.bool false,.bool false,.bool false,.bool false,.bool false,.bool false,.bool false,.bool false,.bool false,.map none,.bool false] 141)).alloc (.cells #[.string ⟨#[]⟩,.int .i64 0,.bool false,.bool false,.bool false,.bool false,.bool false,.bool false,.bool false,.bool false,.bool false,.bool false,.bool false,.bool false,.bool false,.map none,.bool false] 141)).setRow (w.1.size+1) #[.string ⟨word.toArray⟩,.int .i64 cls,.bool false,.bool false,.bool false,.bool false,.bool false,.bool false,.bool false,.bool false,.bool false,.bool false,.bool false,.bool false,.bool false,.map o,.bool false]) from H2.row 0 rfl (kB word cls (fun _=>false) (.map o) false));have HSZ:=jq (show(((w.alloc (.cells #[.string ⟨#[]⟩,.int .i64 0,.bool false,.bool false,.bool false,.bool false,.bool false,.bool false,.bool false,.bool false,.bool false,.bool false,.bool false,.bool false,.bool false,.map none,.bool false] 141)).alloc (.cells #[.string ⟨#[]⟩,.int .i64 0,.bool false,.bool false,.bool false,.bool false,.bool false,.bool false,.bool false,.bool false,.bool false,.bool false,.bool false,.bool false,.bool false,.map none,.bool false] 141)).setRow (w.1.size+1) #[.string ⟨word.toArray⟩,.int .i64 cls,.bool false,.bool false,.bool false,.bool false,.bool false,.bool false,.bool false,.bool false,.bool false,.bool false,.bool false,.bool false,.bool false,.map o,.bool false]).heap.size=w.1.size+2 by simp[World.setRow]);clear H1 H2;unfold S;go_enter Tryz.func183,Tryz.ntmps183
 go_upto_region 2 with (fail)
 generalize ((w.alloc (.cells #[.string ⟨#[]⟩,.int .i64 0,.bool false,.bool false,.bool false,.bool false,.bool false,.bool false,.bool false,.bool false,.bool false,.bool false,.bool false,.bool false,.bool false,.map none,.bool false] 141)).alloc (.cells #[.string ⟨#[]⟩,.int .i64 0,.bool false,.bool false,.bool false,.bool false,.bool false,.bool false,.bool false,.bool false,.bool false,.bool false,.bool false,.bool false,.bool false,.map none,.bool false] 141)).setRow (w.1.size+1) #[.string ⟨word.toArray⟩,.int .i64 cls,.bool false,.bool false,.bool false,.bool false,.bool false,.bool false,.bool false,.bool false,.bool false,.bool false,.bool false,.bool false,.bool false,.map o,.bool false]=W at*;clear hst;have hb3:=H3.out.bl;have HM:=jq (hm.here hb3)
 have HLT:=jq (show ∀b,o=some b->b<w.1.size by
  rintro b rfl
  rcases hm with ⟨h,_⟩|⟨b',k,h,hl⟩
  ·cases h
  ·injection h with h;injection h with h;subst h;exact hl.lt)
 clear hm hb3
 rcases o with _|b
 ·have HNIL:=jq (show nums=[] by
   rcases HM.out with ⟨_,h⟩|⟨_,_,h,_⟩
   ·exact h
   ·cases h)
  have hrg:=run_range_nilMap (P:=Tryz.prog) W 139 3 182 Tryz.underlying139;have hnx:∀ty,(Instr.next (.pointer (some ⟨W.1.size,0,none⟩)) false ty).run Tryz.prog (W.alloc (.mapIter none 0 #[] 0))=_:=fun ty=>run_next_nilMap W ty 0 0 #[]
  have HK:=jq (H3.out.alloc (.mapIter none 0 #[] 0));clear H3;go_wp2_with fail
  refine wp_loop_rounds 1 ?_;rw[rounds_succ];go_upto_region 6 with (fail)
  generalize W.alloc (.mapIter none 0 #[] 0)=W1 at*;clear hrg hnx
  replace HK:=jq (show Kp w [(w.1.size+1,kB word cls (fun j=>nums.any (fun x=>x.1==j)) (.map none) false,141),(w.1.size,#[.string ⟨#[]⟩,.int .i64 0,.bool false,.bool false,.bool false,.bool false,.bool false,.bool false,.bool false,.bool false,.bool false,.bool false,.bool false,.bool false,.bool false,.map none,.bool false],141)] W1 by
   rw[HNIL.out];exact HK.out)
  go_wp2_with fail
  go_loopw [12,28] (fun _ i wr=>∃k:Nat,k<=n/\i=.int .i64 k/\Hid (Kp w [(w.1.size+1,kB word cls (fun j=>nums.any (fun x=>x.1==j)||(more.take k).contains j) (.map none) false,141),(w.1.size,#[.string ⟨#[]⟩,.int .i64 0,.bool false,.bool false,.bool false,.bool false,.bool false,.bool false,.bool false,.bool false,.bool false,.bool false,.bool false,.bool false,.bool false,.map none,.bool false],141)] wr)) (fun _ i _=>n-(intOf i).toNat)
  case atStart=>exact⟨0,Nat.zero_le _,rfl,by show Kp _ _ _;rw[List.take_zero,Vs (q:=fun j=>nums.any (fun x=>x.1==j)) (fun j _=>by simp)];exact HK.out⟩
  case round=>
   clear HK;obtain⟨k,hk,rfl,HK⟩:=hrel
   by_cases hlt:k<n
   ·obtain⟨a0,off,x,rfl,hb,hx,hc⟩:=(hs.below HK.out.bl).at_ hlt
    have d0:wr.cell? ⟨a0,off+k,none⟩=some (.int .i64 (x:Int)):=by have:=hc 0 _ rfl;rwa [Nat.mul_one,Nat.add_zero] at this
    have hx12:x<=12:=hmo x (List.mem_of_getElem? hx);have i1:(0:Int)<=(x:Int):=by omega
    have i2:(x:Int)<13:=by omega
    have c0:=HK.out.c 0 (2+x) rfl (Zeu _ _ _ _ _ x hx12);have f0:=HK.out.f 0 (2+x) rfl;have HN:=jq (HK.out.set 0 (2+x) rfl (.bool true));rw[ZgS _ _ _ _ _ x hx12] at HN;have HE:=jq (show ∀j,j<=12->(if j==x then true else(nums.any (fun y=>y.1==j)||(more.take k).contains j))=(nums.any (fun y=>y.1==j)||(more.take (k+1)).contains j) from fun j _=>Zgd hx j);clear hc hx hx12;go_wp2_with fail
    go_roundw
    case rel=>exact⟨k+1,by omega,by go_num,by show Kp _ _ _;rw[<-Vs HE.out];exact HN.out⟩
    case measure=>simp[intOf];omega
   ·obtain rfl:k=n:=by omega
    have HT:=jq (show more.take k=more from List.take_of_length_le (by rw[<-hs.1];exact Nat.le_refl _));obtain⟨pb,hpb⟩:∃pb,pb=kB word cls (fun j=>nums.any (fun x=>x.1==j)||(more.take k).contains j) (.map none) false:=⟨_,rfl⟩
    have hp1:pb.size=17:=by rw[hpb];rfl
    have hp2:pb.all (·.oneCell')=true:=by rw[hpb];exact Jn _ _ _ _ _ rfl
    rw[<-hpb] at HK;have hl:=Zcd (HK.out.at_ 0 rfl) hp1;have hst:=Zan (pb:=pb) (HK.out.at_ 1 rfl) rfl hp1 hp2;have HR:=jq (HK.out.row 1 rfl pb);rw[HT.out] at hpb;have HPB:=jq hpb;clear hpb hp2 HK;go_wp2_with fail
    have hrl:=run_loadVar_row (P:=Tryz.prog) _ w.1.size 141 141 pb (0,0) _ (HR.out.at_ 1 rfl) Tryz.underlying141 rfl (by rw[hp1];kernel_rfl);refine bodyPost_ret (v:=.agg pb) (by simp[results,Tryz.results183,asAddr,hrl]) rfl ?_;exact⟨by rw[HPB.out],HR.out.bl⟩
 ·rcases HM.out with ⟨h,_⟩|⟨b',kk,h,m,⟨D,hown,hD⟩,hI⟩
  ·cases h
  injection h with h;injection h with h;subst h;have hbw:b<w.1.size:=HLT.out b rfl;have HI:=jq hI;have HD:=jq hD;clear hI hD
  go_wp2_with (first
   |(at_range;refine wpList_range_own _ rfl _ 139 rfl 3 182 (Maps.int_keyed Tryz.underlying3) Tryz.underlying139 _ b kk _ rfl hown ?_;intro w0 hrg0 hg0 hs0)
   |go_in)
  go_frame
  have HK0:=jq (H3.out.here (show Below W.1.size W w0 from⟨hg0.os,hg0.tape,hg0.output,hg0.size,fun k hk=>hg0.block k hk (by simp)⟩));have HW:=jq (show W.1.size=w.1.size+2 from HSZ.out);clear hg0 hs0
  go_loopw [10] (fun _ wr=>∃(left:Lit->Bool) (cnt:Nat),Hid (wr.ranges Tryz.prog 3 Zlw b W.1.size kk D left cnt)/\Hid (Kp w [(w.1.size+1,kB word cls (fun j=>Maps.has D (.int .i64 (j:Int))&& !left (.int .i64 (j:Int))) (.map (some b)) false,141),(w.1.size,#[.string ⟨#[]⟩,.int .i64 0,.bool false,.bool false,.bool false,.bool false,.bool false,.bool false,.bool false,.bool false,.bool false,.bool false,.bool false,.bool false,.bool false,.map none,.bool false],141)] wr)) (fun _ wr=>wr.rangeLeft b W.1.size)
  case atStart=>
   refine⟨_,_,hrg0,?_⟩
   show Kp _ _ _
   rw[Vs (q:=fun _=>false) (fun j _=>by simp)];exact HK0.out
  case round=>
   obtain⟨left,cnt,HRG,HK⟩:=hrel
   clear hrg0 HK0
   go_wp2_with (first
    |(at_next;refine wpList_next_ranges _ rfl _ rfl 3 (Maps.int_keyed Tryz.underlying3) Zlw (Value.int .i64) (fun v:Value=>v) (fun key kl hkey=>by obtain⟨x,rfl,_⟩:=Maps.keyOf_int_inv Tryz.underlying3 hkey;exact⟨x,rfl⟩) (fun v y hv=>⟨v,rfl⟩) b W.1.size kk D left cnt rfl HRG.out ?_ ?_)
    |go_in)
   ·intro hc0 hl0
    replace HK:=jq (show Kp w [(w.1.size+1,kB word cls (fun j=>nums.any (fun x=>x.1==j)) (.map (some b)) false,141),(w.1.size,#[.string ⟨#[]⟩,.int .i64 0,.bool false,.bool false,.bool false,.bool false,.bool false,.bool false,.bool false,.bool false,.bool false,.bool false,.bool false,.bool false,.bool false,.map none,.bool false],141)] wr by
     have h:=HK.out
     rwa [Vs (q:=fun j=>nums.any (fun x=>x.1==j)) (fun j _=>by rw[hl0,Bool.not_false,Bool.and_true,(HD.out.2 _).1,Znj HI.out])] at h)
    clear hl0 hc0 HRG;go_wp2_with fail
    go_loopw [12,28] (fun _ i wr=>∃k:Nat,k<=n/\i=.int .i64 k/\Hid (Kp w [(w.1.size+1,kB word cls (fun j=>nums.any (fun x=>x.1==j)||(more.take k).contains j) (.map (some b)) false,141),(w.1.size,#[.string ⟨#[]⟩,.int .i64 0,.bool false,.bool false,.bool false,.bool false,.bool false,.bool false,.bool false,.bool false,.bool false,.bool false,.bool false,.bool false,.bool false,.map none,.bool false],141)] wr)) (fun _ i _=>n-(intOf i).toNat)
    case atStart=>exact⟨0,Nat.zero_le _,rfl,by show Kp _ _ _;rw[List.take_zero,Vs (q:=fun j=>nums.any (fun x=>x.1==j)) (fun j _=>by simp)];exact HK.out⟩
    case round=>
     clear HK;obtain⟨k,hk,rfl,HK⟩:=hrel
     by_cases hlt:k<n
     ·obtain⟨a0,off,x,rfl,hb,hx,hc⟩:=(hs.below HK.out.bl).at_ hlt
      have d0:wr.cell? ⟨a0,off+k,none⟩=some (.int .i64 (x:Int)):=by have:=hc 0 _ rfl;rwa [Nat.mul_one,Nat.add_zero] at this
      have hx12:x<=12:=hmo x (List.mem_of_getElem? hx);have i1:(0:Int)<=(x:Int):=by omega
      have i2:(x:Int)<13:=by omega
      have c0:=HK.out.c 0 (2+x) rfl (Zeu _ _ _ _ _ x hx12);have f0:=HK.out.f 0 (2+x) rfl;have HN:=jq (HK.out.set 0 (2+x) rfl (.bool true));rw[ZgS _ _ _ _ _ x hx12] at HN;have HE:=jq (show ∀j,j<=12->(if j==x then true else(nums.any (fun y=>y.1==j)||(more.take k).contains j))=(nums.any (fun y=>y.1==j)||(more.take (k+1)).contains j) from fun j _=>Zgd hx j);clear hc hx hx12;go_wp2_with fail
      go_roundw
      case rel=>exact⟨k+1,by omega,by go_num,by show Kp _ _ _;rw[<-Vs HE.out];exact HN.out⟩
      case measure=>simp[intOf];omega
     ·obtain rfl:k=n:=by omega
      have HT:=jq (show more.take k=more from List.take_of_length_le (by rw[<-hs.1];exact Nat.le_refl _));obtain⟨pb,hpb⟩:∃pb,pb=kB word cls (fun j=>nums.any (fun x=>x.1==j)||(more.take k).contains j) (.map (some b)) false:=⟨_,rfl⟩
      have hp1:pb.size=17:=by rw[hpb];rfl
      have hp2:pb.all (·.oneCell')=true:=by rw[hpb];exact Jn _ _ _ _ _ rfl
      rw[<-hpb] at HK;have hl:=Zcd (HK.out.at_ 0 rfl) hp1;have hst:=Zan (pb:=pb) (HK.out.at_ 1 rfl) rfl hp1 hp2;have HR:=jq (HK.out.row 1 rfl pb);rw[HT.out] at hpb;have HPB:=jq hpb;clear hpb hp2 HK;go_wp2_with fail
      have hrl:=run_loadVar_row (P:=Tryz.prog) _ w.1.size 141 141 pb (0,0) _ (HR.out.at_ 1 rfl) Tryz.underlying141 rfl (by rw[hp1];kernel_rfl);refine bodyPost_ret (v:=.agg pb) (by simp[results,Tryz.results183,asAddr,hrl]) rfl ?_;exact⟨by rw[HPB.out],HR.out.bl⟩
   ·intro x c kl y ps w1 cnt1 hkey hlx hR hat hrg1 hlt hg1 hs1 hen;obtain⟨x',ex,rfl,_⟩:=Maps.keyOf_int_inv Tryz.underlying3 hkey
    injection ex with _ ex;subst ex;have hhas:Maps.has D (.int .i64 x)=true:=Maps.has_true_of_atKey hat
    obtain⟨i,hi,rfl⟩:∃i:Nat,i<=12/\x=(i:Int):=by
     have h1:=(HD.out.2 x).1;rw[hhas] at h1;obtain⟨v,hv⟩:=Option.isSome_iff_exists.1 h1.symm
     exact Zni HI.out hv hn
    have HK1:=HK.out.grow hg1 (by have:=HW.out;omega) (fun q hq=>by
     simp only[List.mem_cons,List.mem_nil_iff,or_false] at hq;have:=HW.out
     rcases hq with rfl|rfl<;>simp only<;>omega)
    have i1:(0:Int)<=(i:Int):=by omega
    have i2:(i:Int)<13:=by omega
    have c0:=HK1.c 0 (2+i) rfl (Zeu _ _ _ _ _ i hi);have f0:=HK1.f 0 (2+i) rfl;have HN:=jq (HK1.set 0 (2+i) rfl (.bool true));rw[ZgS _ _ _ _ _ i hi] at HN;have HRN:=jq (hrg1.kept (ZeY w1 (w.1.size+1) (2+i) (.bool true)) (by simp;omega) (by have:=HW.out;simp;omega));have HE:=jq (show ∀j,j<=12->(if j==i then true else(Maps.has D (.int .i64 (j:Int))&& !left (.int .i64 (j:Int))))=(Maps.has D (.int .i64 (j:Int))&& !(left (.int .i64 (j:Int))&& !(Lit.int .i64 (j:Int)).sameKey (.int .i64 (i:Int)))) from fun j _=>Znk hhas);have HRO:=jq hrg1.left_eq;clear hkey hlx hR hat hg1 hs1 hhas HK1 hrg1;go_wp2_with fail
    go_roundw
    case rel=>exact⟨_,cnt1,HRN,by show Kp _ _ _;rw[<-Vs HE.out];exact HN.out⟩
    case measure=>rw[HRN.out.left_eq,HRG.out.left_eq];exact hlt
end
end Go.Proofs.YtkddgeclncafoaaGreatDoor
