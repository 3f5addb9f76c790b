/- Fa0, Gr1. -/
import Derived.Test.YtokjnjdbnabchaaGreatDoorQGEp12
import Derived.Test.YtokjnjdbnabchaaGreatDoorQGEp38
import Derived.Test.YtokjnjdbnabchaaGreatDoorQGEp31
set_option maxRecDepth 20000
set_option maxHeartbeats 4000000
namespace Go.Proofs.YtokjnjdbnabchaaGreatDoor
open Go.Lib renaming hid→jq
open Go.RowKit Go.Shelf
section
attribute [local go_sem] Oper.semAt_some
attribute [local go_sem ↓] Go.wp_at_zero Go.wp_at_succ
theorem Zdg(a:List UInt8):((Lib.trimPrefix a [45]).length:Int)=(JL a:Int):=by
 unfold Lib.trimPrefix JL Lib.hasPrefix
 cases a with
 |nil=>rfl
 |cons b l=>
  by_cases h:b=45
  ·subst h;simp[List.isPrefixOf]
  ·have h':¬45=b:=fun e=>h e.symm
   simp[List.isPrefixOf,h,h']
theorem ZaU(a:List UInt8)(w:World):Calls Tryz.prog 268 #[S a] w fun e w'=>e=.returned (.int .i64 (JL a:Int))/\w'=w:=by
 have HT:=jq (fun W=>Tryz.strings_TrimPrefix ⟨a.toArray⟩ ⟨#[45]⟩ W);have HE:=jq (Zdg a);have e1:(⟨a.toArray⟩:ByteArray).data.toList=a:=rfl;have e2:(⟨#[45]⟩:ByteArray).data.toList=[45]:=rfl;rw[e1,e2] at HT;clear e1 e2;unfold S;go_enter Tryz.func268,Tryz.ntmps268
 go_wp2_with fail
 refine(HT.out _).mono ?_;rintro e w1 ⟨rfl,rfl⟩;go_wp2_with fail
 first|go_ret|skip
 exact⟨Qa HE.out,rfl⟩
theorem XT(p q:Bool)(w:World):
 Calls Tryz.prog 202 #[.bool p,.bool q] w fun e w'=>e=.returned (.func (.func 267) #[] #[.pointer (some ⟨w.1.size,0,none⟩),.pointer (some ⟨w.1.size+1,0,none⟩)])/\w'=(w.alloc (.cells #[.bool p] 4)).alloc (.cells #[.bool q] 4):=by
 go_enter Tryz.func202,Tryz.ntmps202
 go_wp2
 go_ret
 exact⟨rfl,rfl⟩
def LimV(W:World)(v:Value)(pos part:Bool):Prop:=∃b1 b2,v=.func (.func 267) #[] #[.pointer (some ⟨b1,0,none⟩),.pointer (some ⟨b2,0,none⟩)]/\Box W b1 4 (.bool pos)/\Box W b2 4 (.bool part)
theorem LimV.here{W W':World}{v:Value}{p q:Bool}(h:LimV W v p q)(hb:Below W.1.size W W'):LimV W' v p q:=by
 obtain⟨b1,b2,e,h1,h2⟩:=h
 exact⟨b1,b2,e,h1.here hb,h2.here hb⟩
theorem LimV.grown{W W':World}{v:Value}{p q:Bool}{r:Nat}(h:LimV W v p q)(hg:W.grownBy W' (some r))(hr:∀cs T f,W.heap[r]?≠some (.cells cs T f)):LimV W' v p q:=by
 obtain⟨b1,b2,e,h1,h2⟩:=h
 refine⟨b1,b2,e,h1.grown hg (fun e=> ?_),h2.grown hg (fun e=> ?_)⟩
 ·injection e with e;subst e;exact hr _ _ _ h1
 ·injection e with e;subst e;exact hr _ _ _ h2
theorem ZiL(x y:Rat):(VM x y= -1/\x<y)\/(VM x y=0/\x=y)\/(VM x y=1/\y<x):=by
 unfold VM
 by_cases h1:x<y
 ·rw[if_pos h1];exact .inl ⟨rfl,h1⟩
 ·rw[if_neg h1]
  by_cases h2:y<x
  ·rw[if_pos h2];exact .inr (.inr ⟨rfl,h2⟩)
  ·rw[if_neg h2];exact .inr (.inl ⟨rfl,Rat.le_antisymm (Rat.not_lt.1 h2) (Rat.not_lt.1 h1)⟩)
theorem Zin:Qd (1:Rat)=⟨[49],[]⟩:=by
 unfold Qd;rw[if_pos (by rfl),show((1:Rat).num)=1 from rfl,JA]
theorem VT(pos part:Bool)(f:Fr)(b1 b2:Nat)(w:World)(hp:Env w)(hf:f.Sz 1000)(h1:Box w b1 4 (.bool pos))(h2:Box w b2 4 (.bool part)):
 Calls Tryz.prog 267 #[Qj f,.pointer (some ⟨b1,0,none⟩),.pointer (some ⟨b2,0,none⟩)] w fun e w'=>e=.returned (.int .i64 (QT pos part f))/\Below w.1.size w w':=by
 have H:=jq ((Kp.start hp).new w.1.size rfl #[.string ⟨f.n.toArray⟩,.string ⟨f.d.toArray⟩] 28);have HD:=jq (show ∀W',Below w.1.size w W'->W'.cell? ⟨b1,0,none⟩=some (.bool pos)/\W'.cell? ⟨b2,0,none⟩=some (.bool part) from fun W' hb=>⟨(h1.here hb).cell,(h2.here hb).cell⟩);have HC0:=jq (fun W hp=>Vy f Fr.zero W hp (hf.more (by omega)) ⟨by simp[Fr.zero],by simp[Fr.zero]⟩);rw[Zb9] at HC0;have HC1:=jq (fun W hp=>Vy f (Qd (1:Rat)) W hp (hf.more (by omega)) (by rw[Zin];exact⟨by simp,by simp⟩));rw[QU] at HC1;have HOF:=jq (fun W hp=>JC [49] W hp (by simp));rw[YP] at HOF;have HCK:=jq (fun W hp=>Zdf f W hp (hf.more (by omega)));have HN:=jq (fun W=>ZaU f.n W);have HDD:=jq (fun W=>ZaU f.d W);have HR:=jq (show QT pos part f=if ¬f.ok then 1 else if 40<JL f.n\/40<JL f.d then 4 else if f.rat<0\/(pos=true/\f.rat=0)\/(part=true/\1<f.rat) then 2 else 0 from rfl);have HK:=jq (show Zcn f=if f.ok then 0 else 1 from rfl);have HSG:=jq (ZiL f.rat 0);have HSH:=jq (ZiL f.rat 1);obtain⟨y0,y1⟩:=HD.out _ H.out.bl
 have x0:=H.out.c 0 0 rfl rfl;have x1:=H.out.c 0 1 rfl rfl;clear hp hf h1 h2;generalize QT pos part f=res at*;generalize JL f.n=dn at*;generalize JL f.d=dd at*;generalize Qd (1:Rat)=one at*;generalize Zcn f=ck at*;generalize hsg:VM f.rat 0=sg at*;generalize hsh:VM f.rat 1=sh at*;clear hsg hsh;unfold Qj at*
 unfold S at*
 go_enter Tryz.func267,Tryz.ntmps267
 go_wp2_with fail
 generalize w.alloc _=W0 at*;refine(HC0.out _ H.out.po).mono ?_;rintro e w1 ⟨rfl,hb1⟩;replace H:=jq (H.out.here hb1);clear hb1 x0 x1 y0 y1;have x0:w1.cell? ⟨w.1.size,0,none⟩=some (.string ⟨f.n.toArray⟩):=H.out.c 0 0 rfl rfl;have x1:w1.cell? ⟨w.1.size,1,none⟩=some (.string ⟨f.d.toArray⟩):=H.out.c 0 1 rfl rfl;go_wp2_with fail
 refine(HCK.out _ H.out.po).mono ?_;rintro e w2 ⟨rfl,hb2⟩;replace H:=jq (H.out.here hb2);clear hb2 x0 x1;have x0:w2.cell? ⟨w.1.size,0,none⟩=some (.string ⟨f.n.toArray⟩):=H.out.c 0 0 rfl rfl;have x1:w2.cell? ⟨w.1.size,1,none⟩=some (.string ⟨f.d.toArray⟩):=H.out.c 0 1 rfl rfl;obtain⟨y0,y1⟩:=HD.out _ H.out.bl
 by_cases hok:f.ok
 ·rw[if_pos hok] at HK;rw[if_neg (not_not_intro hok)] at HR;obtain rfl:ck=0:=HK.out
  by_cases h40:40<dn
  ·rw[if_pos (.inl h40)] at HR;have h40':(40:Int)<(dn:Int):=by omega
   clear h40 hok;go_wp2_with fail
   refine(HN.out _).mono ?_;rintro e w3 ⟨rfl,rfl⟩;go_wp2_with fail
   first|go_ret|skip
   exact⟨Qa HR.out.symm,H.out.bl⟩
  ·have h40':¬(40:Int)<(dn:Int):=by omega
   by_cases h41:40<dd
   ·rw[if_pos (.inr h41)] at HR;have h41':(40:Int)<(dd:Int):=by omega
    clear h40 h41 hok;go_wp2_with fail
    refine(HN.out _).mono ?_;rintro e w3 ⟨rfl,rfl⟩;go_wp2_with fail
    refine(HDD.out _).mono ?_;rintro e w3 ⟨rfl,rfl⟩;go_wp2_with fail
    first|go_ret|skip
    exact⟨Qa HR.out.symm,H.out.bl⟩
   ·have h41':¬(40:Int)<(dd:Int):=by omega
    rw[if_neg (by omega)] at HR;clear h40 h41 hok;go_wp2_with fail
    refine(HN.out _).mono ?_;rintro e w3 ⟨rfl,rfl⟩;go_wp2_with fail
    refine(HDD.out _).mono ?_;rintro e w3 ⟨rfl,rfl⟩
    rcases HSG.out with ⟨rfl,hs⟩|⟨rfl,hs⟩|⟨rfl,hs⟩
    ·rw[if_pos (.inl hs)] at HR;clear hs;go_upto_region 6 with (fail)
     go_region
     all_goals
      go_wp2_with fail
      first|go_ret|skip
      exact⟨Qa HR.out.symm,H.out.bl.drew⟩
    ·cases pos with
     |true=>
      rw[if_pos (.inr (.inl ⟨rfl,hs⟩))] at HR;clear hs;go_upto_region 6 with (fail)
      go_region
      all_goals
       go_wp2_with fail
       first|go_ret|skip
       exact⟨Qa HR.out.symm,H.out.bl.drew⟩
     |false=>
      cases part with
      |false=>
       rw[if_neg (by rw[hs];simp[Rat.lt_irrefl])] at HR;clear hs;go_upto_region 6 with (fail)
       go_region
       all_goals
        go_wp2_with fail
        first|go_ret|skip
        exact⟨Qa HR.out.symm,H.out.bl.drew⟩
      |true=>
       have h01:¬(1:Rat)<f.rat:=by rw[hs];decide+kernel
       rw[if_neg (by rw[hs];simp[Rat.lt_irrefl];decide+kernel)] at HR
       rcases HSH.out with ⟨rfl,ht⟩|⟨rfl,ht⟩|⟨rfl,ht⟩
       ·clear hs ht h01;go_upto_region 6 with (fail)
        first
         |(go_region_with
            (first
              |(go_at_call 19;refine(HOF.out _ H.out.drew.po).mono ?_;rintro e v2 ⟨rfl,hb2⟩;unfold Qj S;have hz:Below w3.1.size w3 v2:=(Below.refl _ w3).drew.trans hb2;have k0:v2.cell? ⟨w.1.size,0,none⟩=some (.string ⟨f.n.toArray⟩):=(H.out.here hz).c 0 0 rfl rfl;have k1:v2.cell? ⟨w.1.size,1,none⟩=some (.string ⟨f.d.toArray⟩):=(H.out.here hz).c 0 1 rfl rfl)
              |(go_at_call 39;refine(HC1.out _ (H.out.here hz).po).mono ?_;rintro e v3 ⟨rfl,hb3⟩;have hz2:Below w3.1.size w3 v3:=hz.trans (hb3.mono hz.size))))
         |fail
        all_goals
         go_wp2_with fail
         first|go_ret|skip
         exact⟨Qa HR.out.symm,(H.out.here hz2).bl⟩
       ·rw[hs] at ht;exact absurd ht (by decide+kernel)
       ·exact absurd ht h01
    ·have h0:¬(f.rat<0):=Rat.not_lt.2 (Rat.le_of_lt hs);have h1:¬(f.rat=0):=fun e=>by rw[e] at hs;exact Rat.lt_irrefl hs
     cases part with
     |false=>
      rw[if_neg (by simp[h0,h1])] at HR;clear hs h0 h1
      cases pos
      all_goals
       go_upto_region 6 with (fail)
       go_region
       all_goals
        go_wp2_with fail
        first|go_ret|skip
        exact⟨Qa HR.out.symm,H.out.bl.drew⟩
     |true=>
      have HE:=jq (show res=if 0<sh then 2 else 0 by
       rw[HR.out]
       rcases HSH.out with ⟨rfl,ht⟩|⟨rfl,ht⟩|⟨rfl,ht⟩
       ·rw[if_neg (by simp[h0,h1];exact Rat.not_lt.2 (Rat.le_of_lt ht)),if_neg (by omega)]
       ·rw[if_neg (by simp[ht];decide+kernel),if_neg (by omega)]
       ·rw[if_pos (.inr (.inr ⟨rfl,ht⟩)),if_pos (by omega)])
      clear hs h0 h1 HR HSH
      by_cases hsh:0<sh
      ·rw[if_pos hsh] at HE;have HR:=jq HE.out;clear HE
       cases pos
       ·go_upto_region 6 with (fail)
        first
         |(go_region_with
            (first
              |(go_at_call 19;refine(HOF.out _ H.out.drew.po).mono ?_;rintro e v2 ⟨rfl,hb2⟩;unfold Qj S;have hz:Below w3.1.size w3 v2:=(Below.refl _ w3).drew.trans hb2;have k0:v2.cell? ⟨w.1.size,0,none⟩=some (.string ⟨f.n.toArray⟩):=(H.out.here hz).c 0 0 rfl rfl;have k1:v2.cell? ⟨w.1.size,1,none⟩=some (.string ⟨f.d.toArray⟩):=(H.out.here hz).c 0 1 rfl rfl)
              |(go_at_call 39;refine(HC1.out _ (H.out.here hz).po).mono ?_;rintro e v3 ⟨rfl,hb3⟩;have hz2:Below w3.1.size w3 v3:=hz.trans (hb3.mono hz.size))))
         |fail
        all_goals
         go_wp2_with fail
         first|go_ret|skip
         exact⟨Qa HR.out.symm,(H.out.here hz2).bl⟩
       ·go_upto_region 6 with (fail)
        first
         |(go_region_with
            (first
              |(go_at_call 19;refine(HOF.out _ H.out.drew.po).mono ?_;rintro e v2 ⟨rfl,hb2⟩;unfold Qj S;have hz:Below w3.1.size w3 v2:=(Below.refl _ w3).drew.trans hb2;have k0:v2.cell? ⟨w.1.size,0,none⟩=some (.string ⟨f.n.toArray⟩):=(H.out.here hz).c 0 0 rfl rfl;have k1:v2.cell? ⟨w.1.size,1,none⟩=some (.string ⟨f.d.toArray⟩):=(H.out.here hz).c 0 1 rfl rfl)
              |(go_at_call 39;refine(HC1.out _ (H.out.here hz).po).mono ?_;rintro e v3 ⟨rfl,hb3⟩;have hz2:Below w3.1.size w3 v3:=hz.trans (hb3.mono hz.size))))
         |fail
        all_goals
         go_wp2_with fail
         first|go_ret|skip
         exact⟨Qa HR.out.symm,(H.out.here hz2).bl⟩
      ·rw[if_neg hsh] at HE;have HR:=jq HE.out;clear HE
       cases pos
       ·go_upto_region 6 with (fail)
        first
         |(go_region_with
            (first
              |(go_at_call 19;refine(HOF.out _ H.out.drew.po).mono ?_;rintro e v2 ⟨rfl,hb2⟩;unfold Qj S;have hz:Below w3.1.size w3 v2:=(Below.refl _ w3).drew.trans hb2;have k0:v2.cell? ⟨w.1.size,0,none⟩=some (.string ⟨f.n.toArray⟩):=(H.out.here hz).c 0 0 rfl rfl;have k1:v2.cell? ⟨w.1.size,1,none⟩=some (.string ⟨f.d.toArray⟩):=(H.out.here hz).c 0 1 rfl rfl)
              |(go_at_call 39;refine(HC1.out _ (H.out.here hz).po).mono ?_;rintro e v3 ⟨rfl,hb3⟩;have hz2:Below w3.1.size w3 v3:=hz.trans (hb3.mono hz.size))))
         |fail
        all_goals
         go_wp2_with fail
         first|go_ret|skip
         exact⟨Qa HR.out.symm,(H.out.here hz2).bl⟩
       ·go_upto_region 6 with (fail)
        first
         |(go_region_with
            (first
              |(go_at_call 19;refine(HOF.out _ H.out.drew.po).mono ?_;rintro e v2 ⟨rfl,hb2⟩;unfold Qj S;have hz:Below w3.1.size w3 v2:=(Below.refl _ w3).drew.trans hb2;have k0:v2.cell? ⟨w.1.size,0,none⟩=some (.string ⟨f.n.toArray⟩):=(H.out.here hz).c 0 0 rfl rfl;have k1:v2.cell? ⟨w.1.size,1,none⟩=some (.string ⟨f.d.toArray⟩):=(H.out.here hz).c 0 1 rfl rfl)
              |(go_at_call 39;refine(HC1.out _ (H.out.here hz).po).mono ?_;rintro e v3 ⟨rfl,hb3⟩;have hz2:Below w3.1.size w3 v3:=hz.trans (hb3.mono hz.size))))
         |fail
        all_goals
         go_wp2_with fail
         first|go_ret|skip
         exact⟨Qa HR.out.symm,(H.out.here hz2).bl⟩
 ·rw[if_neg hok] at HK;rw[if_pos hok] at HR;obtain rfl:ck=1:=HK.out;clear hok;go_wp2_with fail
  first|go_ret|skip
  exact⟨Qa HR.out.symm,H.out.bl⟩
end
section
attribute [local go_sem ↓] Go.wp_at_zero Go.wp_at_succ
def lgF(f:Fr):Bool:=decide (13<f.n.length)||decide (13<f.d.length)
theorem XA{f:Fr}(h:lgF f=false):f.Sz 13:=by
 unfold lgF at h;simp at h;exact⟨by omega,by omega⟩
theorem Zdh(A:Option Addr)(n c:Nat)(xs:List Fr)(w:World)(hs:Frs w w.1.size A n xs)(hn:n<=1000000000):Calls Tryz.prog 184 #[.slice A n c] w fun e w'=>e=.returned (.bool (xs.any lgF))/\w'=w:=by
 have HS:=jq hs;have HNX:=jq hs.1;clear hs;go_enter Tryz.func184,Tryz.ntmps184
 go_wp2_with fail
 go_loopw [3] (fun i wr=>∃k:Nat,k<=n/\i=.int .i64 k/\Hid ((xs.take k).any lgF=false)/\wr=w) (fun i _=>n-(intOf i).toNat)
 case atStart=>exact⟨0,Nat.zero_le _,rfl,(show _=_ by simp),rfl⟩
 case round=>
  obtain⟨k,hk,rfl,HAN,rfl⟩:=hrel
  by_cases hlt:k<n
  ·obtain⟨b,off,f,rfl,hb,hx,d0,d1⟩:=HS.out.fr hlt
   have HX:=jq hx;clear hx;have HG:=jq (show lgF f=(decide (13<f.n.length)||decide (13<f.d.length)) from rfl)
   by_cases h1:13<f.n.length
   ·rw[decide_eq_true h1,Bool.true_or] at HG;have a1:(13:Int)<(f.n.length:Int):=by omega
    clear h1;go_wp2_with fail
    go_ret
    exact⟨Qm (List.any_eq_true.2 ⟨f,List.mem_of_getElem? HX.out,HG.out⟩).symm,rfl⟩
   ·rw[decide_eq_false h1,Bool.false_or] at HG;have a1:¬(13:Int)<(f.n.length:Int):=by omega
    clear h1
    by_cases h2:13<f.d.length
    ·rw[decide_eq_true h2] at HG;have a2:(13:Int)<(f.d.length:Int):=by omega
     clear h2;go_wp2_with fail
     go_ret
     exact⟨Qm (List.any_eq_true.2 ⟨f,List.mem_of_getElem? HX.out,HG.out⟩).symm,rfl⟩
    ·rw[decide_eq_false h2] at HG;have a2:¬(13:Int)<(f.d.length:Int):=by omega
     clear h2;go_wp2_with fail
     go_roundw
     case rel=>exact⟨k+1,by omega,by go_num,VG HX.out HAN.out HG.out,by first|rfl|trivial⟩
     case measure=>simp[intOf];omega
  ·go_wp2_with fail
   go_ret
   exact⟨Qm (by have h1:=HAN.out;have h2:=HNX.out;rw[List.take_of_length_le (by omega)] at h1;exact h1.symm),rfl⟩
theorem Xd(f:Fr)(w:World):Calls Tryz.prog 128 #[Qj f] w fun e w'=>e=.returned (.bool (lgF f))/\Below w.1.size w w':=by
 have H1:BlkB (w.alloc (.cells #[.string ⟨f.n.toArray⟩,.string ⟨f.d.toArray⟩] 28)) w.1.size #[.string ⟨f.n.toArray⟩,.string ⟨f.d.toArray⟩] 28:=heap_alloc_new w _;have HB:=jq (show Below w.1.size w (w.alloc (.cells #[.string ⟨f.n.toArray⟩,.string ⟨f.d.toArray⟩] 28)) from Below.alloc (Below.refl _ w) (Nat.le_refl _) _);have x0:=H1.cell 0 (v:=.string ⟨f.n.toArray⟩) rfl;have x1:=H1.cell 1 (v:=.string ⟨f.d.toArray⟩) rfl
 have HL:=jq (show ∀W:World,Calls Tryz.prog 184 #[.slice (some ⟨W.1.size,0,none⟩) 1 1] (W.alloc (.cells #[.string ⟨f.n.toArray⟩,.string ⟨f.d.toArray⟩] 28)) fun e w'=>e=.returned (.bool (lgF f))/\w'=W.alloc (.cells #[.string ⟨f.n.toArray⟩,.string ⟨f.d.toArray⟩] 28) from fun W=>by
  have h1:Frs (W.alloc (.cells #[.string ⟨f.n.toArray⟩,.string ⟨f.d.toArray⟩] 28)) (W.1.size+1) (some ⟨W.1.size,0,none⟩) 1 [f]:=Sl.lit W _ 28 [f] rfl Zfu;have:=Zdh _ 1 1 [f] _ (h1.more (by simp)) (by omega)
  simpa using this)
 have HA:=jq (fun W:World=>show Below W.1.size W (W.alloc (.cells #[.string ⟨f.n.toArray⟩,.string ⟨f.d.toArray⟩] 28)) from Below.alloc (Below.refl _ W) (Nat.le_refl _) _);clear H1;generalize lgF f=res at*;unfold Qj S at*
 go_enter Tryz.func128,Tryz.ntmps128
 go_upto_region 1 with (fail)
 generalize w.alloc _=W at*;go_wp2_with fail
 refine(HL.out W).mono ?_;rintro e w1 ⟨rfl,rfl⟩;go_wp2_with fail
 first|go_ret|skip
 exact⟨rfl,HB.out.trans ((HA.out W).mono HB.out.size)⟩
end
end Go.Proofs.YtokjnjdbnabchaaGreatDoor
