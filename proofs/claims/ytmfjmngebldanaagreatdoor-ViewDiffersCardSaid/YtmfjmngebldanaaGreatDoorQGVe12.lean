/- Fa0, Gr1, Gr2, Fmx, Fn. -/
import Derived.Test.YtmfjmngebldanaaGreatDoorQGVe5
import Derived.Test.YtmfjmngebldanaaGreatDoorQGVe16
import Derived.StillTail
import Derived.Laws.IdiomRangeMap
set_option maxRecDepth 100000
set_option maxHeartbeats 8000000
namespace Go.Proofs.YtmfjmngebldanaaGreatDoor
open Go.Lib renaming hid→jq
open Go.RowKit Go.Shelf
section
attribute [local go_sem] Oper.semAt_some
attribute [local go_sem ↓] Go.wp_at_zero Go.wp_at_succ
theorem ZfT(a:List UInt8):((Lib.trimPrefix a [45]).length:Int)=(XV a:Int):=by
 unfold Lib.trimPrefix XV Lib.hasPrefix
 cases a with
 |nil=>rfl
 |cons b l=>
  by_cases h:b=45
  ·subst h;simp[List.isPrefixOf]
  ·have h':¬45=b:=fun e=>h e.symm
   simp[List.isPrefixOf,h,h']
theorem Zdc(a:List UInt8)(w:World):Calls Tryz.prog 139 #[S a] w fun e w'=>e=.returned (.int .i64 (XV a:Int))/\w'=w:=by
 have HT:=jq (fun W=>Tryz.strings_TrimPrefix ⟨a.toArray⟩ ⟨#[45]⟩ W);have HE:=jq (ZfT a);have e1:(⟨a.toArray⟩:ByteArray).data.toList=a:=rfl;have e2:(⟨#[45]⟩:ByteArray).data.toList=[45]:=rfl;rw[e1,e2] at HT;clear e1 e2;unfold S;go_enter Tryz.func139,Tryz.ntmps139
 go_wp2_with fail
 refine(HT.out _).mono ?_;rintro e w1 ⟨rfl,rfl⟩;go_wp2_with fail
 first|go_ret|skip
 exact⟨Qa HE.out,rfl⟩
theorem Vc(p q:Bool)(w:World):
 Calls Tryz.prog 107 #[.bool p,.bool q] w fun e w'=>e=.returned (.func (.func 136) #[] #[.pointer (some ⟨w.1.size,0,none⟩),.pointer (some ⟨w.1.size+1,0,none⟩)])/\w'=(w.alloc (.cells #[.bool p] 4)).alloc (.cells #[.bool q] 4):=by
 go_enter Tryz.func107,Tryz.ntmps107
 go_wp2
 go_ret
 exact⟨rfl,rfl⟩
def LimV(W:World)(v:Value)(pos part:Bool):Prop:=∃b1 b2,v=.func (.func 136) #[] #[.pointer (some ⟨b1,0,none⟩),.pointer (some ⟨b2,0,none⟩)]/\Box W b1 4 (.bool pos)/\Box W b2 4 (.bool part)
theorem LimV.here{W W':World}{v:Value}{p q:Bool}(h:LimV W v p q)(hb:Below W.1.size W W'):LimV W' v p q:=by
 obtain⟨b1,b2,e,h1,h2⟩:=h
 exact⟨b1,b2,e,h1.here hb,h2.here hb⟩
theorem LimV.grown{W W':World}{v:Value}{p q:Bool}{r:Nat}(h:LimV W v p q)(hg:W.grownBy W' (some r))(hr:∀cs T f,W.heap[r]?≠some (.cells cs T f)):LimV W' v p q:=by
 obtain⟨b1,b2,e,h1,h2⟩:=h
 refine⟨b1,b2,e,h1.grown hg (fun e=> ?_),h2.grown hg (fun e=> ?_)⟩
 ·injection e with e;subst e;exact hr _ _ _ h1
 ·injection e with e;subst e;exact hr _ _ _ h2
theorem ZhL(x y:Rat):(Xj x y= -1/\x<y)\/(Xj x y=0/\x=y)\/(Xj x y=1/\y<x):=by
 unfold Xj
 by_cases h1:x<y
 ·rw[if_pos h1];exact .inl ⟨rfl,h1⟩
 ·rw[if_neg h1]
  by_cases h2:y<x
  ·rw[if_pos h2];exact .inr (.inr ⟨rfl,h2⟩)
  ·rw[if_neg h2];exact .inr (.inl ⟨rfl,Rat.le_antisymm (Rat.not_lt.1 h2) (Rat.not_lt.1 h1)⟩)
theorem Zm2:QJ (1:Rat)=⟨[49],[]⟩:=by
 unfold QJ;rw[if_pos (by rfl),show((1:Rat).num)=1 from rfl,Zat]
theorem ZaW(pos part:Bool)(f:Fr)(b1 b2:Nat)(w:World)(hp:Env w)(hf:f.Sz 1000)(h1:Box w b1 4 (.bool pos))(h2:Box w b2 4 (.bool part)):
 Calls Tryz.prog 136 #[Xg f,.pointer (some ⟨b1,0,none⟩),.pointer (some ⟨b2,0,none⟩)] w fun e w'=>e=.returned (.int .i64 (Qv pos part f))/\Below w.1.size w w':=by
 have H:=jq ((Kp.start hp).new w.1.size rfl #[.string ⟨f.n.toArray⟩,.string ⟨f.d.toArray⟩] 39);have HD:=jq (show ∀W',Below w.1.size w W'->W'.cell? ⟨b1,0,none⟩=some (.bool pos)/\W'.cell? ⟨b2,0,none⟩=some (.bool part) from fun W' hb=>⟨(h1.here hb).cell,(h2.here hb).cell⟩);have HC0:=jq (fun W hp=>Zau f Fr.zero W hp (hf.more (by omega)) ⟨by simp[Fr.zero],by simp[Fr.zero]⟩);rw[Zey] at HC0;have HC1:=jq (fun W hp=>Zau f (QJ (1:Rat)) W hp (hf.more (by omega)) (by rw[Zm2];exact⟨by simp,by simp⟩));rw[Zex] at HC1;have HOF:=jq (fun W hp=>Zlz [49] W hp (by simp));rw[VE] at HOF;have HCK:=jq (fun W hp=>ZfS f W hp (hf.more (by omega)));have HN:=jq (fun W=>Zdc f.n W);have HDD:=jq (fun W=>Zdc f.d W);have HR:=jq (show Qv pos part f=if ¬f.ok then 1 else if 40<XV f.n\/40<XV f.d then 4 else if f.rat<0\/(pos=true/\f.rat=0)\/(part=true/\1<f.rat) then 2 else 0 from rfl);have HK:=jq (show JK f=if f.ok then 0 else 1 from rfl);have HSG:=jq (ZhL f.rat 0);have HSH:=jq (ZhL f.rat 1);obtain⟨y0,y1⟩:=HD.out _ H.out.bl
 have x0:=H.out.c 0 0 rfl rfl;have x1:=H.out.c 0 1 rfl rfl;clear hp hf h1 h2;generalize Qv pos part f=res at*;generalize XV f.n=dn at*;generalize XV f.d=dd at*;generalize QJ (1:Rat)=one at*;generalize JK f=ck at*;generalize hsg:Xj f.rat 0=sg at*;generalize hsh:Xj f.rat 1=sh at*;clear hsg hsh;unfold Xg at*
 unfold S at*
 go_enter Tryz.func136,Tryz.ntmps136
 go_wp2_with fail
 generalize w.alloc _=W0 at*;refine(HC0.out _ H.out.po).mono ?_;rintro e w1 ⟨rfl,hb1⟩;replace H:=jq (H.out.here hb1);clear hb1 x0 x1 y0 y1;have x0:w1.cell? ⟨w.1.size,0,none⟩=some (.string ⟨f.n.toArray⟩):=H.out.c 0 0 rfl rfl;have x1:w1.cell? ⟨w.1.size,1,none⟩=some (.string ⟨f.d.toArray⟩):=H.out.c 0 1 rfl rfl;go_wp2_with fail
 refine(HCK.out _ H.out.po).mono ?_;rintro e w2 ⟨rfl,hb2⟩;replace H:=jq (H.out.here hb2);clear hb2 x0 x1;have x0:w2.cell? ⟨w.1.size,0,none⟩=some (.string ⟨f.n.toArray⟩):=H.out.c 0 0 rfl rfl;have x1:w2.cell? ⟨w.1.size,1,none⟩=some (.string ⟨f.d.toArray⟩):=H.out.c 0 1 rfl rfl;obtain⟨y0,y1⟩:=HD.out _ H.out.bl
 by_cases hok:f.ok
 ·rw[if_pos hok] at HK;rw[if_neg (not_not_intro hok)] at HR;obtain rfl:ck=0:=HK.out
  by_cases h40:40<dn
  ·rw[if_pos (.inl h40)] at HR;have h40':(40:Int)<(dn:Int):=by omega
   clear h40 hok;go_wp2_with fail
   refine(HN.out _).mono ?_;rintro e w3 ⟨rfl,rfl⟩;go_wp2_with fail
   first|go_ret|skip
   exact⟨Qa HR.out.symm,H.out.bl⟩
  ·have h40':¬(40:Int)<(dn:Int):=by omega
   by_cases h41:40<dd
   ·rw[if_pos (.inr h41)] at HR;have h41':(40:Int)<(dd:Int):=by omega
    clear h40 h41 hok;go_wp2_with fail
    refine(HN.out _).mono ?_;rintro e w3 ⟨rfl,rfl⟩;go_wp2_with fail
    refine(HDD.out _).mono ?_;rintro e w3 ⟨rfl,rfl⟩;go_wp2_with fail
    first|go_ret|skip
    exact⟨Qa HR.out.symm,H.out.bl⟩
   ·have h41':¬(40:Int)<(dd:Int):=by omega
    rw[if_neg (by omega)] at HR;clear h40 h41 hok;go_wp2_with fail
    refine(HN.out _).mono ?_;rintro e w3 ⟨rfl,rfl⟩;go_wp2_with fail
    refine(HDD.out _).mono ?_;rintro e w3 ⟨rfl,rfl⟩
    rcases HSG.out with ⟨rfl,hs⟩|⟨rfl,hs⟩|⟨rfl,hs⟩
    ·rw[if_pos (.inl hs)] at HR;clear hs;go_upto_region 6 with (fail)
     go_region
     all_goals
      go_wp2_with fail
      first|go_ret|skip
      exact⟨Qa HR.out.symm,H.out.bl.drew⟩
    ·cases pos with
     |true=>
      rw[if_pos (.inr (.inl ⟨rfl,hs⟩))] at HR;clear hs;go_upto_region 6 with (fail)
      go_region
      all_goals
       go_wp2_with fail
       first|go_ret|skip
       exact⟨Qa HR.out.symm,H.out.bl.drew⟩
     |false=>
      cases part with
      |false=>
       rw[if_neg (by rw[hs];simp[Rat.lt_irrefl])] at HR;clear hs;go_upto_region 6 with (fail)
       go_region
       all_goals
        go_wp2_with fail
        first|go_ret|skip
        exact⟨Qa HR.out.symm,H.out.bl.drew⟩
      |true=>
       have h01:¬(1:Rat)<f.rat:=by rw[hs];decide+kernel
       rw[if_neg (by rw[hs];simp[Rat.lt_irrefl];decide+kernel)] at HR
       rcases HSH.out with ⟨rfl,ht⟩|⟨rfl,ht⟩|⟨rfl,ht⟩
       ·clear hs ht h01;go_upto_region 6 with (fail)
        first
         |(go_region_with
            (first
              |(go_at_call 140;refine(HOF.out _ H.out.drew.po).mono ?_;rintro e v2 ⟨rfl,hb2⟩;unfold Xg S;have hz:Below w3.1.size w3 v2:=(Below.refl _ w3).drew.trans hb2;have k0:v2.cell? ⟨w.1.size,0,none⟩=some (.string ⟨f.n.toArray⟩):=(H.out.here hz).c 0 0 rfl rfl;have k1:v2.cell? ⟨w.1.size,1,none⟩=some (.string ⟨f.d.toArray⟩):=(H.out.here hz).c 0 1 rfl rfl)
              |(go_at_call 137;refine(HC1.out _ (H.out.here hz).po).mono ?_;rintro e v3 ⟨rfl,hb3⟩;have hz2:Below w3.1.size w3 v3:=hz.trans (hb3.mono hz.size))))
         |fail
        all_goals
         go_wp2_with fail
         first|go_ret|skip
         exact⟨Qa HR.out.symm,(H.out.here hz2).bl⟩
       ·rw[hs] at ht;exact absurd ht (by decide+kernel)
       ·exact absurd ht h01
    ·have h0:¬(f.rat<0):=Rat.not_lt.2 (Rat.le_of_lt hs);have h1:¬(f.rat=0):=fun e=>by rw[e] at hs;exact Rat.lt_irrefl hs
     cases part with
     |false=>
      rw[if_neg (by simp[h0,h1])] at HR;clear hs h0 h1
      cases pos
      all_goals
       go_upto_region 6 with (fail)
       go_region
       all_goals
        go_wp2_with fail
        first|go_ret|skip
        exact⟨Qa HR.out.symm,H.out.bl.drew⟩
     |true=>
      have HE:=jq (show res=if 0<sh then 2 else 0 by
       rw[HR.out]
       rcases HSH.out with ⟨rfl,ht⟩|⟨rfl,ht⟩|⟨rfl,ht⟩
       ·rw[if_neg (by simp[h0,h1];exact Rat.not_lt.2 (Rat.le_of_lt ht)),if_neg (by omega)]
       ·rw[if_neg (by simp[ht];decide+kernel),if_neg (by omega)]
       ·rw[if_pos (.inr (.inr ⟨rfl,ht⟩)),if_pos (by omega)])
      clear hs h0 h1 HR HSH
      by_cases hsh:0<sh
      ·rw[if_pos hsh] at HE;have HR:=jq HE.out;clear HE
       cases pos
       ·go_upto_region 6 with (fail)
        first
         |(go_region_with
            (first
              |(go_at_call 140;refine(HOF.out _ H.out.drew.po).mono ?_;rintro e v2 ⟨rfl,hb2⟩;unfold Xg S;have hz:Below w3.1.size w3 v2:=(Below.refl _ w3).drew.trans hb2;have k0:v2.cell? ⟨w.1.size,0,none⟩=some (.string ⟨f.n.toArray⟩):=(H.out.here hz).c 0 0 rfl rfl;have k1:v2.cell? ⟨w.1.size,1,none⟩=some (.string ⟨f.d.toArray⟩):=(H.out.here hz).c 0 1 rfl rfl)
              |(go_at_call 137;refine(HC1.out _ (H.out.here hz).po).mono ?_;rintro e v3 ⟨rfl,hb3⟩;have hz2:Below w3.1.size w3 v3:=hz.trans (hb3.mono hz.size))))
         |fail
        all_goals
         go_wp2_with fail
         first|go_ret|skip
         exact⟨Qa HR.out.symm,(H.out.here hz2).bl⟩
       ·go_upto_region 6 with (fail)
        first
         |(go_region_with
            (first
              |(go_at_call 140;refine(HOF.out _ H.out.drew.po).mono ?_;rintro e v2 ⟨rfl,hb2⟩;unfold Xg S;have hz:Below w3.1.size w3 v2:=(Below.refl _ w3).drew.trans hb2;have k0:v2.cell? ⟨w.1.size,0,none⟩=some (.string ⟨f.n.toArray⟩):=(H.out.here hz).c 0 0 rfl rfl;have k1:v2.cell? ⟨w.1.size,1,none⟩=some (.string ⟨f.d.toArray⟩):=(H.out.here hz).c 0 1 rfl rfl)
              |(go_at_call 137;refine(HC1.out _ (H.out.here hz).po).mono ?_;rintro e v3 ⟨rfl,hb3⟩;have hz2:Below w3.1.size w3 v3:=hz.trans (hb3.mono hz.size))))
         |fail
        all_goals
         go_wp2_with fail
         first|go_ret|skip
         exact⟨Qa HR.out.symm,(H.out.here hz2).bl⟩
      ·rw[if_neg hsh] at HE;have HR:=jq HE.out;clear HE
       cases pos
       ·go_upto_region 6 with (fail)
        first
         |(go_region_with
            (first
              |(go_at_call 140;refine(HOF.out _ H.out.drew.po).mono ?_;rintro e v2 ⟨rfl,hb2⟩;unfold Xg S;have hz:Below w3.1.size w3 v2:=(Below.refl _ w3).drew.trans hb2;have k0:v2.cell? ⟨w.1.size,0,none⟩=some (.string ⟨f.n.toArray⟩):=(H.out.here hz).c 0 0 rfl rfl;have k1:v2.cell? ⟨w.1.size,1,none⟩=some (.string ⟨f.d.toArray⟩):=(H.out.here hz).c 0 1 rfl rfl)
              |(go_at_call 137;refine(HC1.out _ (H.out.here hz).po).mono ?_;rintro e v3 ⟨rfl,hb3⟩;have hz2:Below w3.1.size w3 v3:=hz.trans (hb3.mono hz.size))))
         |fail
        all_goals
         go_wp2_with fail
         first|go_ret|skip
         exact⟨Qa HR.out.symm,(H.out.here hz2).bl⟩
       ·go_upto_region 6 with (fail)
        first
         |(go_region_with
            (first
              |(go_at_call 140;refine(HOF.out _ H.out.drew.po).mono ?_;rintro e v2 ⟨rfl,hb2⟩;unfold Xg S;have hz:Below w3.1.size w3 v2:=(Below.refl _ w3).drew.trans hb2;have k0:v2.cell? ⟨w.1.size,0,none⟩=some (.string ⟨f.n.toArray⟩):=(H.out.here hz).c 0 0 rfl rfl;have k1:v2.cell? ⟨w.1.size,1,none⟩=some (.string ⟨f.d.toArray⟩):=(H.out.here hz).c 0 1 rfl rfl)
              |(go_at_call 137;refine(HC1.out _ (H.out.here hz).po).mono ?_;rintro e v3 ⟨rfl,hb3⟩;have hz2:Below w3.1.size w3 v3:=hz.trans (hb3.mono hz.size))))
         |fail
        all_goals
         go_wp2_with fail
         first|go_ret|skip
         exact⟨Qa HR.out.symm,(H.out.here hz2).bl⟩
 ·rw[if_neg hok] at HK;rw[if_pos hok] at HR;obtain rfl:ck=1:=HK.out;clear hok;go_wp2_with fail
  first|go_ret|skip
  exact⟨Qa HR.out.symm,H.out.bl⟩
end
section
attribute [local go_sem ↓] Go.wp_at_zero Go.wp_at_succ
def lgF(f:Fr):Bool:=decide (13<f.n.length)||decide (13<f.d.length)
theorem YG{f:Fr}(h:lgF f=false):f.Sz 13:=by
 unfold lgF at h;simp at h;exact⟨by omega,by omega⟩
theorem ZfU(A:Option Addr)(n c:Nat)(xs:List Fr)(w:World)(hs:Frs w w.1.size A n xs)(hn:n<=1000000000):Calls Tryz.prog 70 #[.slice A n c] w fun e w'=>e=.returned (.bool (xs.any lgF))/\w'=w:=by
 have HS:=jq hs;have HNX:=jq hs.1;clear hs;go_enter Tryz.func70,Tryz.ntmps70
 go_wp2_with fail
 go_loopw [3] (fun i wr=>∃k:Nat,k<=n/\i=.int .i64 k/\Hid ((xs.take k).any lgF=false)/\wr=w) (fun i _=>n-(intOf i).toNat)
 case atStart=>exact⟨0,Nat.zero_le _,rfl,(show _=_ by simp),rfl⟩
 case round=>
  obtain⟨k,hk,rfl,HAN,rfl⟩:=hrel
  by_cases hlt:k<n
  ·obtain⟨b,off,f,rfl,hb,hx,d0,d1⟩:=HS.out.fr hlt
   have HX:=jq hx;clear hx;have HG:=jq (show lgF f=(decide (13<f.n.length)||decide (13<f.d.length)) from rfl)
   by_cases h1:13<f.n.length
   ·rw[decide_eq_true h1,Bool.true_or] at HG;have a1:(13:Int)<(f.n.length:Int):=by omega
    clear h1;go_wp2_with fail
    go_ret
    exact⟨Qd (List.any_eq_true.2 ⟨f,List.mem_of_getElem? HX.out,HG.out⟩).symm,rfl⟩
   ·rw[decide_eq_false h1,Bool.false_or] at HG;have a1:¬(13:Int)<(f.n.length:Int):=by omega
    clear h1
    by_cases h2:13<f.d.length
    ·rw[decide_eq_true h2] at HG;have a2:(13:Int)<(f.d.length:Int):=by omega
     clear h2;go_wp2_with fail
     go_ret
     exact⟨Qd (List.any_eq_true.2 ⟨f,List.mem_of_getElem? HX.out,HG.out⟩).symm,rfl⟩
    ·rw[decide_eq_false h2] at HG;have a2:¬(13:Int)<(f.d.length:Int):=by omega
     clear h2;go_wp2_with fail
     go_roundw
     case rel=>exact⟨k+1,by omega,by go_num,ZaP HX.out HAN.out HG.out,by first|rfl|trivial⟩
     case measure=>simp[intOf];omega
  ·go_wp2_with fail
   go_ret
   exact⟨Qd (by have h1:=HAN.out;have h2:=HNX.out;rw[List.take_of_length_le (by omega)] at h1;exact h1.symm),rfl⟩
theorem XS(f:Fr)(w:World):Calls Tryz.prog 42 #[Xg f] w fun e w'=>e=.returned (.bool (lgF f))/\Below w.1.size w w':=by
 have H1:BlkB (w.alloc (.cells #[.string ⟨f.n.toArray⟩,.string ⟨f.d.toArray⟩] 39)) w.1.size #[.string ⟨f.n.toArray⟩,.string ⟨f.d.toArray⟩] 39:=heap_alloc_new w _;have HB:=jq (show Below w.1.size w (w.alloc (.cells #[.string ⟨f.n.toArray⟩,.string ⟨f.d.toArray⟩] 39)) from Below.alloc (Below.refl _ w) (Nat.le_refl _) _);have x0:=H1.cell 0 (v:=.string ⟨f.n.toArray⟩) rfl;have x1:=H1.cell 1 (v:=.string ⟨f.d.toArray⟩) rfl
 have HL:=jq (show ∀W:World,Calls Tryz.prog 70 #[.slice (some ⟨W.1.size,0,none⟩) 1 1] (W.alloc (.cells #[.string ⟨f.n.toArray⟩,.string ⟨f.d.toArray⟩] 39)) fun e w'=>e=.returned (.bool (lgF f))/\w'=W.alloc (.cells #[.string ⟨f.n.toArray⟩,.string ⟨f.d.toArray⟩] 39) from fun W=>by
  have h1:Frs (W.alloc (.cells #[.string ⟨f.n.toArray⟩,.string ⟨f.d.toArray⟩] 39)) (W.1.size+1) (some ⟨W.1.size,0,none⟩) 1 [f]:=Sl.lit W _ 39 [f] rfl Zjh;have:=ZfU _ 1 1 [f] _ (h1.more (by simp)) (by omega)
  simpa using this)
 have HA:=jq (fun W:World=>show Below W.1.size W (W.alloc (.cells #[.string ⟨f.n.toArray⟩,.string ⟨f.d.toArray⟩] 39)) from Below.alloc (Below.refl _ W) (Nat.le_refl _) _);clear H1;generalize lgF f=res at*;unfold Xg S at*
 go_enter Tryz.func42,Tryz.ntmps42
 go_upto_region 1 with (fail)
 generalize w.alloc _=W at*;go_wp2_with fail
 refine(HL.out W).mono ?_;rintro e w1 ⟨rfl,rfl⟩;go_wp2_with fail
 first|go_ret|skip
 exact⟨rfl,HB.out.trans ((HA.out W).mono HB.out.size)⟩
end
section
attribute [local go_sem] Oper.semAt_some
attribute [local go_sem ↓] Go.wp_at_zero Go.wp_at_succ Ql
structure Fct.Gs (f:Fct):Prop where
 key:f.key.length<=24
 inst:f.inst.length<=24
 other:f.other.length<=24
 cur:f.cur.length<=24
 target:f.target.length<=24
 q:f.q.length<=13
 amount:f.amount.length<=13
 fee:f.fee.length<=13
 price:f.price.Sz 13
 ratio:f.ratio.Sz 13
 share:f.share.Sz 13
def GrP(f:Fct)(v:FaV)(e:Ending):Prop:=∃b,e=.returned (.bool b)/\(b=false->f.Gs/\v.pn<=66/\v.on<=10/\(∀p∈f.picks,p.Sz 30)/\∀o∈f.options,o.Sz 24)
theorem Zb2{α:Type}{p:α->Prop}{xs:List α}{k:Nat}{x:α}(h:xs[k]?=some x)(ha:∀y∈xs.take k,p y)(hx:p x):∀y∈xs.take (k+1),p y:=by
 obtain⟨hk,rfl⟩:=List.getElem?_eq_some_iff.1 h
 rw[List.take_succ_eq_append_getElem hk];intro y hy
 rcases List.mem_append.1 hy with hy|hy
 ·exact ha y hy
 ·rw[List.mem_singleton.1 hy];exact hx
theorem Zav(f:Fct)(v:FaV)(w:World)(hp:Env w)(hm:FaM w w.1.size f v)(hpn:v.pn<=9223372036854775807)(hon:v.on<=9223372036854775807):
 Calls Tryz.prog 17 #[.agg (Qb f v)] w fun e w'=>GrP f v e/\Below w.1.size w w':=by
 have H:=jq ((Kp.start hp).new w.1.size rfl (Qb f v) 43);have HM:=jq (fun W (hb:Below w.1.size w W)=>hm.here hb);have HLQ:=jq (fun W=>Jy f.q W);have HLA:=jq (fun W=>Jy f.amount W);have HLE:=jq (fun W=>Jy f.fee W);have HLP:=jq (fun W=>XS f.price W);have HLR:=jq (fun W=>XS f.ratio W);have HLS:=jq (fun W=>XS f.share W)
 have HG:=jq (fun(h1:f.key.length<=24) (h2:f.inst.length<=24) (h3:f.other.length<=24) (h4:f.cur.length<=24) (h5:f.target.length<=24) (h6:decide (13<f.q.length)=false) (h7:decide (13<f.amount.length)=false) (h8:decide (13<f.fee.length)=false) (h9:lgF f.price=false) (h10:lgF f.ratio=false) (h11:lgF f.share=false)=>
  (show f.Gs from⟨h1,h2,h3,h4,h5,by simpa using h6,by simpa using h7,by simpa using h8,YG h9,YG h10,YG h11⟩))
 generalize decide (13<f.q.length)=bq at*;generalize decide (13<f.amount.length)=ba at*;generalize decide (13<f.fee.length)=be at*;generalize lgF f.price=bp at*;generalize lgF f.ratio=br at*;generalize lgF f.share=bs at*;have C0:=jq (show(Qb f v)[0]?=some (.string ⟨f.key.toArray⟩) from rfl);have x0:=H.out.c 0 0 rfl C0.out;have C5:=jq (show(Qb f v)[5]?=some (.string ⟨f.inst.toArray⟩) from rfl);have x5:=H.out.c 0 5 rfl C5.out;have C6:=jq (show(Qb f v)[6]?=some (.string ⟨f.other.toArray⟩) from rfl);have x6:=H.out.c 0 6 rfl C6.out;have C7:=jq (show(Qb f v)[7]?=some (.string ⟨f.cur.toArray⟩) from rfl);have x7:=H.out.c 0 7 rfl C7.out;have C8:=jq (show(Qb f v)[8]?=some (.string ⟨f.target.toArray⟩) from rfl);have x8:=H.out.c 0 8 rfl C8.out;have C9:=jq (show(Qb f v)[9]?=some (.string ⟨f.q.toArray⟩) from rfl);have x9:=H.out.c 0 9 rfl C9.out;have C10:=jq (show(Qb f v)[10]?=some (.string ⟨f.amount.toArray⟩) from rfl);have x10:=H.out.c 0 10 rfl C10.out;have C11:=jq (show(Qb f v)[11]?=some (.string ⟨f.fee.toArray⟩) from rfl);have x11:=H.out.c 0 11 rfl C11.out;have C12:=jq (show(Qb f v)[12]?=some (.string ⟨f.price.n.toArray⟩) from rfl);have x12:=H.out.c 0 12 rfl C12.out;have C13:=jq (show(Qb f v)[13]?=some (.string ⟨f.price.d.toArray⟩) from rfl);have x13:=H.out.c 0 13 rfl C13.out;have C14:=jq (show(Qb f v)[14]?=some (.string ⟨f.ratio.n.toArray⟩) from rfl);have C15:=jq (show(Qb f v)[15]?=some (.string ⟨f.ratio.d.toArray⟩) from rfl);have C16:=jq (show(Qb f v)[16]?=some (.string ⟨f.share.n.toArray⟩) from rfl);have C17:=jq (show(Qb f v)[17]?=some (.string ⟨f.share.d.toArray⟩) from rfl);have C18:=jq (show(Qb f v)[18]?=some (.slice v.pA v.pn v.pc) from rfl);have C19:=jq (show(Qb f v)[19]?=some (.slice v.oA v.on v.oc) from rfl);generalize hfb:Qb f v=fb at*;clear hfb hp hm;unfold Xg S at*
 go_enter Tryz.func17,Tryz.ntmps17
 go_upto_region 1 with (fail)
 generalize w.alloc (.cells fb 43)=W at*
 go_cut [63] (fun u wc=>∃b,u=.bool b/\Hid (Kp w [(w.1.size,fb,43)] wc)/\Hid (b=false->f.Gs))
 case first=>
  go_wp2_with (first
   |(go_at_call 41;first
      |(refine(HLQ.out _).mono ?_;rintro e v1 ⟨rfl,rfl⟩;cases bq)
      |(refine(HLA.out _).mono ?_;rintro e v1 ⟨rfl,rfl⟩;cases ba)
      |(refine(HLE.out _).mono ?_;rintro e v1 ⟨rfl,rfl⟩;cases be))
   |(go_at_call 42;first
      |(refine(HLP.out _).mono ?_;rintro e w2 ⟨rfl,hb2⟩;have H2:=jq (H.out.here hb2);have y14:=H2.out.c 0 14 rfl C14.out;have y15:=H2.out.c 0 15 rfl C15.out;cases bp)
      |(refine(HLR.out _).mono ?_;rintro e w3 ⟨rfl,hb3⟩;have H3:=jq (H2.out.here hb3);have y16:=H3.out.c 0 16 rfl C16.out;have y17:=H3.out.c 0 17 rfl C17.out;cases br)
      |(refine(HLS.out _).mono ?_;rintro e w4 ⟨rfl,hb4⟩;have H4:=jq (H3.out.here hb4);cases bs)))
  all_goals
   go_meet
   refine⟨_,rfl,by first|exact H4.out|exact H3.out|exact H2.out|exact H.out,fun h=> ?_⟩
   first|(cases h;done)|exact HG.out (by omega) (by omega) (by omega) (by omega) (by omega) (by first|rfl|trivial) (by first|rfl|trivial) (by first|rfl|trivial) (by first|rfl|trivial) (by first|rfl|trivial) (by first|rfl|trivial)
 case rest=>
 obtain⟨b,rfl,HK,HS⟩:=hcut
 clear HLQ HLA HLE HLP HLR HLS HG x0 x5 x6 x7 x8 x9 x10 x11 x12 x13 H
 cases b with
 |true=>
  go_wp2_with fail
  first|go_ret|skip
  exact⟨⟨true,rfl,fun h=>by cases h⟩,HK.out.bl⟩
 |false=>
 have HF:=jq (HS.out rfl);clear HS;have x18:=HK.out.c 0 18 rfl C18.out;have x19:=HK.out.c 0 19 rfl C19.out;go_upto_region 3 with (fail)
 go_cut [97] (fun u wx=>∃b,u=.bool b/\wx=wc/\Hid (b=false->v.pn<=66/\v.on<=10))
 case first=>
  go_wp2_with fail
  all_goals
   go_meet
   refine⟨_,rfl,rfl,fun h=> ?_⟩
   first|(cases h;done)|(constructor<;>omega)|(simp at h;constructor<;>omega)
 case rest=>
 obtain⟨b,rfl,rfl,HS⟩:=hcut
 cases b with
 |true=>
  go_wp2_with fail
  first|go_ret|skip
  exact⟨⟨true,rfl,fun h=>by cases h⟩,HK.out.bl⟩
 |false=>
 have hsz:=HS.out rfl;have hpn':=hsz.1;have hon':=hsz.2;clear HS hpn hon hsz;go_wp2_with fail
 go_loopw [3] (fun i wr=>∃k:Nat,k<=v.pn/\i=.int .i64 k/\Hid (∀p∈f.picks.take k,p.Sz 30)/\Hid (Kp w [(w.1.size,fb,43)] wr)) (fun i _=>v.pn-(intOf i).toNat)
 case atStart=>exact⟨0,Nat.zero_le _,rfl,(show ∀p∈f.picks.take 0,p.Sz 30 from fun p h=>by simp at h),HK.out⟩
 case round=>
  obtain⟨k,hk,rfl,HAN,HKr⟩:=hrel
  have x18':=HKr.out.c 0 18 rfl C18.out
  by_cases hlt:k<v.pn
  ·obtain⟨b0,off,x,hA,hb,hx,d0,d1⟩:=(HM.out wr HKr.out.bl).pk.pk hlt
   rw[hA] at x18';have HX:=jq hx;have HLX:=jq (fun W=>Jy x.q W);have HBX:=jq (show decide (13<x.q.length)=false->x.q.length<=30 from fun h=>by simp at h;omega);generalize decide (13<x.q.length)=bx at*;clear hA hb hx;unfold S at*
   by_cases h1:30<x.lot.length
   ·have a1:(30:Int)<(x.lot.length:Int):=by omega
    clear h1;go_wp2_with fail
    first|go_ret|skip
    exact⟨⟨true,rfl,fun h=>by cases h⟩,HKr.out.bl⟩
   ·have a1:¬(30:Int)<(x.lot.length:Int):=by omega
    cases bx with
    |true=>
     go_wp2_with (go_at_call 41;refine(HLX.out _).mono ?_;rintro e v1 ⟨rfl,rfl⟩)
     first|go_ret|skip
     exact⟨⟨true,rfl,fun h=>by cases h⟩,HKr.out.bl⟩
    |false=>
     have HSX:=jq (show x.Sz 30 from⟨by omega,HBX.out rfl⟩);clear HBX h1;go_wp2_with (go_at_call 41;refine(HLX.out _).mono ?_;rintro e v1 ⟨rfl,rfl⟩)
     go_roundw
     case rel=>exact⟨k+1,by omega,by go_num,Zb2 HX.out HAN.out HSX.out,HKr.out⟩
     case measure=>simp[intOf];omega
  ·have HPK:=jq (show ∀p∈f.picks,p.Sz 30 by have h1:=HAN.out;have h2:=(HM.out wr HKr.out.bl).pk.1;rw[List.take_of_length_le (by omega)] at h1;exact h1);have ek:k=v.pn:=by omega
   clear HAN hlt hk;subst ek;go_wp2_with fail
   go_loopw [4] (fun i wq=>∃k:Nat,k<=v.on/\i=.int .i64 k/\Hid (∀p∈f.options.take k,p.Sz 24)/\Hid (Kp w [(w.1.size,fb,43)] wq)) (fun i _=>v.on-(intOf i).toNat)
   case atStart=>exact⟨0,Nat.zero_le _,rfl,(show ∀p∈f.options.take 0,p.Sz 24 from fun p h=>by simp at h),HKr.out⟩
   case round=>
    obtain⟨q,hq,rfl,HAO,HKq⟩:=hrel
    have x19':=HKq.out.c 0 19 rfl C19.out
    by_cases hlt2:q<v.on
    ·obtain⟨b0,off,y,hA,hb,hy,d0,d1,d2,d3,d4,d5,d6⟩:=(HM.out _ HKq.out.bl).op.opt hlt2
     rw[hA] at x19';have HY:=jq hy;have HL1:=jq (fun W=>XS y.ratio W);have HL2:=jq (fun W=>XS y.price W);have HL3:=jq (fun W=>XS y.value W);have HYS:=jq (fun(h0:y.other.length<=24) (h1:lgF y.ratio=false) (h2:lgF y.price=false) (h3:lgF y.value=false)=>(show y.Sz 24 from⟨h0,(YG h1).more (by omega),(YG h2).more (by omega),(YG h3).more (by omega)⟩));have HB:=jq (HKq.out.new _ rfl #[.string ⟨y.other.toArray⟩,.string ⟨y.ratio.n.toArray⟩,.string ⟨y.ratio.d.toArray⟩,.string ⟨y.price.n.toArray⟩,.string ⟨y.price.d.toArray⟩,.string ⟨y.value.n.toArray⟩,.string ⟨y.value.d.toArray⟩] 71);generalize lgF y.ratio=b1 at*;generalize lgF y.price=b2 at*;generalize lgF y.value=b3 at*;clear hA hb hy;unfold Xg S at*
     go_upto_region 14 with (fail)
     generalize wr.alloc _=W1 at*;clear d0 d1 d2 d3 d4 d5 d6 x19';generalize hb5:wr.1.size=b5 at*;clear hb5;have c0:=HB.out.c 0 0 rfl rfl;have c1:=HB.out.c 0 1 rfl rfl;have c2:=HB.out.c 0 2 rfl rfl
     go_wp2_with (go_at_call 42;first
      |(refine(HL1.out _).mono ?_;rintro e w2 ⟨rfl,hb2⟩;have H2:=jq (HB.out.here hb2);have e3:=H2.out.c 0 3 rfl rfl;have e4:=H2.out.c 0 4 rfl rfl;cases b1)
      |(refine(HL2.out _).mono ?_;rintro e w3 ⟨rfl,hb3⟩;have H3:=jq (H2.out.here hb3);have e5:=H3.out.c 0 5 rfl rfl;have e6:=H3.out.c 0 6 rfl rfl;cases b2)
      |(refine(HL3.out _).mono ?_;rintro e w4 ⟨rfl,hb4⟩;have H4:=jq (H3.out.here hb4);cases b3))
     ·go_roundw
      case rel=>exact⟨q+1,by omega,by go_num,Zb2 HY.out HAO.out (HYS.out (by omega) (by first|rfl|trivial) (by first|rfl|trivial) (by first|rfl|trivial)),H4.out.tail⟩
      case measure=>simp[intOf];omega
     all_goals
      first|go_ret|skip
      exact⟨⟨true,rfl,fun h=>by cases h⟩,by first|exact H4.out.bl|exact H3.out.bl|exact H2.out.bl|exact HB.out.bl⟩
    ·have HOP:=jq (show ∀p∈f.options,p.Sz 24 by have h1:=HAO.out;have h2:=(HM.out _ HKq.out.bl).op.1;rw[List.take_of_length_le (by omega)] at h1;exact h1);go_wp2_with fail
     first|go_ret|skip
     exact⟨⟨false,rfl,fun _=>⟨HF.out,hpn',hon',HPK.out,HOP.out⟩⟩,HKq.out.bl⟩
end
section
structure Fct.Max (f:Fct):Prop where
 price:f.price.n.length<=maxLen/\f.price.d.length<=maxLen
 ratio:f.ratio.n.length<=maxLen/\f.ratio.d.length<=maxLen
 share:f.share.n.length<=maxLen/\f.share.d.length<=maxLen
 stamp:I64 f.stamp
 day:I64 f.day
 kind:I64 f.kind
 choice:I64 f.choice
theorem Fct.Gs.sz0{f:Fct}(h:f.Gs)(hm:f.Max)(hp:∀p∈f.picks,p.Sz 30)(ho:∀o∈f.options,o.Sz 24):f.Sz 1000:=
 ⟨Nat.le_trans h.key (by omega),Nat.le_trans h.inst (by omega),Nat.le_trans h.other (by omega),Nat.le_trans h.cur (by omega),Nat.le_trans h.target (by omega),Nat.le_trans h.q (by omega),Nat.le_trans h.amount (by omega),Nat.le_trans h.fee (by omega),
  h.price.more (by omega),h.ratio.more (by omega),h.share.more (by omega),fun p hx=>⟨Nat.le_trans (hp p hx).lot (by omega),Nat.le_trans (hp p hx).q (by omega)⟩,
  fun o hx=>⟨Nat.le_trans (ho o hx).other (by omega),(ho o hx).ratio.more (by omega),(ho o hx).price.more (by omega),(ho o hx).value.more (by omega)⟩,hm.stamp,hm.day,hm.kind,hm.choice⟩
end
section
attribute [local go_sem] Oper.semAt_some
attribute [local go_sem ↓] Go.wp_at_zero Go.wp_at_succ VV ZbW
def LimI(W:World)(m:Int->Option Value)(nums:List (Nat×Bool×Bool)):Prop:=
 ∀k:Int,match nums.find? (fun x=>(x.1:Int)==k) with|some x=>∃v,m k=some v/\LimV W v x.2.1 x.2.2|none=>m k=none
def LimB(W:World)(b n:Nat)(nums:List (Nat×Bool×Bool)):Prop:=∃m,ImB W b n m/\LimI W m nums
theorem ImB.noCells{W:World}{b n:Nat}{m:Int->Option Value}(h:ImB W b n m)(cs:Array Value)(T:TypeId)(f:Nat×Nat):W.heap[b]?≠some (.cells cs T f):=by
 obtain⟨D,⟨es,clock,h1,h2⟩,h3⟩:=h
 rw[h1];intro e
 cases e
theorem LimI.here{W W':World}{m:Int->Option Value}{nums:List (Nat×Bool×Bool)}(h:LimI W m nums)(hb:∀v p q,LimV W v p q->LimV W' v p q):LimI W' m nums:=by
 intro k;have:=h k
 split<;>rename_i e<;>rw[e] at this
 ·obtain⟨v,h1,h2⟩:=this;exact⟨v,h1,hb _ _ _ h2⟩
 ·exact this
section
variable {W W':World} {b n r nn:Nat} {nums:List (Nat×Bool×Bool)} {m:Int->Option Value}
theorem LimB.lt(h:LimB W b n nums):b<W.1.size:=h.elim fun _ h=>h.1.lt
theorem LimB.here(h:LimB W b n nums)(hb:Below W.1.size W W'):LimB W' b n nums:=by
 obtain⟨m,h1,h2⟩:=h
 exact⟨m,h1.here hb,h2.here fun _ _ _ h=>h.here hb⟩
theorem LimB.grown(h:LimB W b n nums)(hr:ImB W r nn m)(hg:W.grownBy W' (some r))(hne:b≠r):LimB W' b n nums:=by
 obtain⟨m',h1,h2⟩:=h
 exact⟨m',h1.grown hg (fun e=>hne (by injection e)),h2.here fun _ _ _ h=>h.grown hg hr.noCells⟩
theorem Zdq(W:World):LimB (W.alloc (.map #[] 0)) W.1.size 0 []:=⟨_,Zhf W,fun _=>rfl⟩
theorem LimB.put{i:Nat}{v:Value}{p q:Bool}(k0:Int)(h:LimB W b n nums)(hk0:k0=(i:Int))(hn:n<100)(hi:i<=12)(hv:LimV W v p q)(hx:nums.all (fun x=>x.1 !=i)=true):
 ∃W',(Instr.mapUpdate 102 (.map (some b)) (.int .i64 k0) v).run Tryz.prog W=.ok () W'/\LimB W' b (n+1) (nums++[(i,p,q)])/\W.grownBy W' (some b):=by
 subst hk0;obtain⟨m,h1,h2⟩:=h
 obtain⟨W',hr,h3,hg⟩:=h1.put (t:=102) (k:=(i:Int)) Tryz.underlying102 (by unfold maxLen;omega) (by omega) (by omega) v
 refine⟨W',hr,⟨_,h3,fun k=> ?_⟩,hg⟩;have h4:=(h2.here (W':=W') fun _ _ _ h=>h.grown hg h1.noCells) k;rw[List.find?_append]
 by_cases e:k=(i:Int)
 ·subst e
  have hf:nums.find? (fun x=>(x.1:Int)==(i:Int))=none:=by
   rw[List.find?_eq_none];intro x hx';have:=List.all_eq_true.1 hx x hx'
   simp only[bne_iff_ne,ne_eq] at this;simp only[beq_iff_eq];omega
  rw[hf,List.find?_cons_of_pos (by simp)];exact⟨v,by simp,hv.grown hg h1.noCells⟩
 ·rw[List.find?_cons_of_neg (by simp only[beq_iff_eq];omega),List.find?_nil];simp only[if_neg e]
  cases hf:nums.find? (fun x=>(x.1:Int)==k)<;>rw[hf] at h4<;>exact h4
end
def LimM(W:World)(mv:Value)(nums:List (Nat×Bool×Bool)):Prop:=(mv=.map none/\nums=[])\/∃b n,mv=.map (some b)/\LimB W b n nums
theorem LimM.here{W W':World}{mv:Value}{nums:List (Nat×Bool×Bool)}(h:LimM W mv nums)(hb:Below W.1.size W W'):LimM W' mv nums:=by
 rcases h with h|⟨b,n,e,h⟩
 ·exact .inl h
 ·exact .inr ⟨b,n,e,h.here hb⟩
def I1(n:Nat):List Value:=[.int .i64 (n:Int)]
theorem Zj2(n:Nat):(I1 n).length=1:=rfl
theorem ZlU{W:World}{m:Int->Option Value}{nums:List (Nat×Bool×Bool)}(h:LimI W m nums){k:Int}{v:Value}(hk:m k=some v)(hn:∀x∈nums,x.1<=12):∃i:Nat,i<=12/\k=(i:Int):=by
 have:=h k
 cases hf:nums.find? (fun x=>(x.1:Int)==k) with
 |none=>rw[hf] at this;rw[this] at hk;cases hk
 |some x=>
  have h1:=List.mem_of_find?_eq_some hf;have h2:=List.find?_some hf;simp only[beq_iff_eq] at h2;exact⟨x.1,hn x h1,h2.symm⟩
theorem ZlV{W:World}{m:Int->Option Value}{nums:List (Nat×Bool×Bool)}(h:LimI W m nums)(i:Nat):(m (i:Int)).isSome=nums.any (fun x=>x.1==i):=by
 have:=h (i:Int)
 cases hf:nums.find? (fun x=>(x.1:Int)==(i:Int)) with
 |none=>
  rw[hf] at this;rw[this,Option.isSome_none,eq_comm,List.any_eq_false];intro x hx hxi;have:=List.find?_eq_none.1 hf x hx
  simp only[beq_iff_eq] at this hxi;omega
 |some x=>
  rw[hf] at this;obtain⟨v,h1,_⟩:=this
  rw[h1,Option.isSome_some,eq_comm,List.any_eq_true];have h2:=List.find?_some hf;simp only[beq_iff_eq] at h2;exact⟨x,List.mem_of_find?_eq_some hf,by simp only[beq_iff_eq];omega⟩
theorem Ze0{nums:List (Nat×Bool×Bool)}{more:List Nat}{k x:Nat}(hx:more[k]?=some x)(j:Nat):
 (if j==x then true else(nums.any (fun y=>y.1==j)||(more.take k).contains j))=(nums.any (fun y=>y.1==j)||(more.take (k+1)).contains j):=by
 obtain⟨hk,rfl⟩:=List.getElem?_eq_some_iff.1 hx
 rw[List.take_succ_eq_append_getElem hk,List.contains_append]
 by_cases e:j=more[k]
 ·simp[e]
 ·simp[e]
theorem ZlW{D:DataW Value}{left:Lit->Bool}{i j:Nat}(h:Maps.has D (.int .i64 (i:Int))=true):
 (if j==i then true else(Maps.has D (.int .i64 (j:Int))&& !left (.int .i64 (j:Int))))=(Maps.has D (.int .i64 (j:Int))&& !(left (.int .i64 (j:Int))&& !(Lit.int .i64 (j:Int)).sameKey (.int .i64 (i:Int)))):=by
 by_cases e:j=i
 ·subst e;rw[WideAt.sameKey_self (by simp[WideAt.IsKeyLit]),h];simp
 ·rw[Maps.sameKey_ne (fun h=>e (by injection h with _ h;omega))];simp[e]
theorem Zd3(w:World)(b i:Nat)(v:Value):w.grownBy (w.setCell ⟨b,i,none⟩ v) (some b):=
 ⟨rfl,rfl,rfl,by simp[World.setCell],fun k _ hk=>Below.heap_setCell w ⟨b,i,none⟩ v k (fun e=>hk (by rw[e]))⟩
theorem Kp.grow{w W W':World}{bs:List (Nat×Array Value×TypeId)}{p:Nat}(h:Kp w bs W)(hg:W.grownBy W' (some p))(hp:w.1.size<=p)(hne:∀b∈bs,b.1≠p):Kp w bs W':=
 ⟨h.pow,h.bl.trans ⟨hg.os,hg.tape,hg.output,hg.size,fun k hk=>hg.block k (by have:=h.bl.size;omega) (fun e=>by injection e with e;omega)⟩,h.own,h.ord,fun b hm=>(hg.block b.1 (h.blk b hm).lt (fun e=>hne b hm (by injection e))).trans (h.blk b hm)⟩
theorem ZbK(word:List UInt8)(cls:Int)(o:Option Nat)(nums:List (Nat×Bool×Bool))(A:Option Addr)(n c:Nat)(more:List Nat)(w:World)(hp:Env w)(hm:LimM w (.map o) nums)(hn:∀x∈nums,x.1<=12)(hs:Sl I1 1 w w.1.size A n more)(hmo:∀x∈more,x<=12)(hl:n<=1000):
 Calls Tryz.prog 108 #[S word,.int .i64 cls,.map o,.slice A n c] w fun e w'=>e=.returned (.agg (kB word cls (fun i=>nums.any (fun x=>x.1==i)||more.contains i) (.map o) false))/\Below w.1.size w w':=by
 have hmc:(Value.map o).oneCell'=true:=rfl;have H1:=(Kp.start hp).new w.1.size rfl #[.string ⟨#[]⟩,.int .i64 0,.bool false,.bool false,.bool false,.bool false,.bool false,.bool false,.bool false,.bool false,.bool false,.bool false,.bool false,.bool false,.bool false,.map none,.bool false] 104;have H2:=H1.new (w.1.size+1) (by simp) #[.string ⟨#[]⟩,.int .i64 0,.bool false,.bool false,.bool false,.bool false,.bool false,.bool false,.bool false,.bool false,.bool false,.bool false,.bool false,.bool false,.bool false,.map none,.bool false] 104;have hst:=VC (pb:=kB word cls (fun _=>false) (.map o) false) (H2.at_ 0 rfl) rfl rfl (VB _ _ _ _ _ hmc);unfold kB at hst;have H3:=jq (show Kp w [(w.1.size+1,kB word cls (fun _=>false) (.map o) false,104),(w.1.size,#[.string ⟨#[]⟩,.int .i64 0,.bool false,.bool false,.bool false,.bool false,.bool false,.bool false,.bool false,.bool false,.bool false,.bool false,.bool false,.bool false,.bool false,.map none,.bool false],104)] (((w.alloc (.cells #[.string ⟨#[]⟩,.int .i64 0,.bool false,.bool false,.bool false,.bool false,.bool false,.bool false,.bool false,.bool false,.bool false,.bool false,.bool false,.bool false,.bool false,.map none,.bool false] 104)).alloc (.cells #[.string ⟨#[]⟩,.int .i64 0,.bool false,.bool false,.bool false,.bool false,.bool false,.bool false,.bool false,.bool false,.bool false,.bool false,.bool false,.bool false,.bool false,.map none,.bool false] 104)).setRow (w.1.size+1) #[.string ⟨word.toArray⟩,.int .i64 cls,.bool false,.bool false,.bool false,.bool false,.bool false,.bool false,.bool false,.bool false,.bool false,.bool false,.bool false,.bool false,.bool false,.map o,.bool false]) from H2.row 0 rfl (kB word cls (fun _=>false) (.map o) false));have HSZ:=jq (show(((w.alloc (.cells #[.string ⟨#[]⟩,.int .i64 0,.bool false,.bool false,.bool false,.bool false,.bool false,.bool false,.bool false,.bool false,.bool false,.bool false,.bool false,.bool false,.bool false,.map none,.bool false] 104)).alloc (.cells #[.string ⟨#[]⟩,.int .i64 0,.bool false,.bool false,.bool false,.bool false,.bool false,.bool false,.bool false,.bool false,.bool false,.bool false,.bool false,.bool false,.bool false,.map none,.bool false] 104)).setRow (w.1.size+1) #[.string ⟨word.toArray⟩,.int .i64 cls,.bool false,.bool false,.bool false,.bool false,.bool false,.bool false,.bool false,.bool false,.bool false,.bool false,.bool false,.bool false,.bool false,.map o,.bool false]).heap.size=w.1.size+2 by simp[World.setRow]);clear H1 H2;unfold S;go_enter Tryz.func108,Tryz.ntmps108
 go_upto_region 2 with (fail)
 generalize ((w.alloc (.cells #[.string ⟨#[]⟩,.int .i64 0,.bool false,.bool false,.bool false,.bool false,.bool false,.bool false,.bool false,.bool false,.bool false,.bool false,.bool false,.bool false,.bool false,.map none,.bool false] 104)).alloc (.cells #[.string ⟨#[]⟩,.int .i64 0,.bool false,.bool false,.bool false,.bool false,.bool false,.bool false,.bool false,.bool false,.bool false,.bool false,.bool false,.bool false,.bool false,.map none,.bool false] 104)).setRow (w.1.size+1) #[.string ⟨word.toArray⟩,.int .i64 cls,.bool false,.bool false,.bool false,.bool false,.bool false,.bool false,.bool false,.bool false,.bool false,.bool false,.bool false,.bool false,.bool false,.map o,.bool false]=W at*;clear hst;have hb3:=H3.out.bl;have HM:=jq (hm.here hb3)
 have HLT:=jq (show ∀b,o=some b->b<w.1.size by
  rintro b rfl
  rcases hm with ⟨h,_⟩|⟨b',k,h,hl⟩
  ·cases h
  ·injection h with h;injection h with h;subst h;exact hl.lt)
 clear hm hb3
 rcases o with _|b
 ·have HNIL:=jq (show nums=[] by
   rcases HM.out with ⟨_,h⟩|⟨_,_,h,_⟩
   ·exact h
   ·cases h)
  have hrg:=run_range_nilMap (P:=Tryz.prog) W 102 3 139 Tryz.underlying102;have hnx:∀ty,(Instr.next (.pointer (some ⟨W.1.size,0,none⟩)) false ty).run Tryz.prog (W.alloc (.mapIter none 0 #[] 0))=_:=fun ty=>run_next_nilMap W ty 0 0 #[]
  have HK:=jq (H3.out.alloc (.mapIter none 0 #[] 0));clear H3;go_wp2_with fail
  refine wp_loop_rounds 1 ?_;rw[rounds_succ];go_upto_region 6 with (fail)
  generalize W.alloc (.mapIter none 0 #[] 0)=W1 at*;clear hrg hnx
  replace HK:=jq (show Kp w [(w.1.size+1,kB word cls (fun j=>nums.any (fun x=>x.1==j)) (.map none) false,104),(w.1.size,#[.string ⟨#[]⟩,.int .i64 0,.bool false,.bool false,.bool false,.bool false,.bool false,.bool false,.bool false,.bool false,.bool false,.bool false,.bool false,.bool false,.bool false,.map none,.bool false],104)] W1 by
   rw[HNIL.out];exact HK.out)
  go_wp2_with fail
  go_loopw [12,28] (fun _ i wr=>∃k:Nat,k<=n/\i=.int .i64 k/\Hid (Kp w [(w.1.size+1,kB word cls (fun j=>nums.any (fun x=>x.1==j)||(more.take k).contains j) (.map none) false,104),(w.1.size,#[.string ⟨#[]⟩,.int .i64 0,.bool false,.bool false,.bool false,.bool false,.bool false,.bool false,.bool false,.bool false,.bool false,.bool false,.bool false,.bool false,.bool false,.map none,.bool false],104)] wr)) (fun _ i _=>n-(intOf i).toNat)
  case atStart=>exact⟨0,Nat.zero_le _,rfl,by show Kp _ _ _;rw[List.take_zero,YO (q:=fun j=>nums.any (fun x=>x.1==j)) (fun j _=>by simp)];exact HK.out⟩
  case round=>
   clear HK;obtain⟨k,hk,rfl,HK⟩:=hrel
   by_cases hlt:k<n
   ·obtain⟨a0,off,x,rfl,hb,hx,hc⟩:=(hs.below HK.out.bl).at_ hlt
    have d0:wr.cell? ⟨a0,off+k,none⟩=some (.int .i64 (x:Int)):=by have:=hc 0 _ rfl;rwa [Nat.mul_one,Nat.add_zero] at this
    have hx12:x<=12:=hmo x (List.mem_of_getElem? hx);have i1:(0:Int)<=(x:Int):=by omega
    have i2:(x:Int)<13:=by omega
    have c0:=HK.out.c 0 (2+x) rfl (ZdO _ _ _ _ _ x hx12);have f0:=HK.out.f 0 (2+x) rfl;have HN:=jq (HK.out.set 0 (2+x) rfl (.bool true));rw[ZfK _ _ _ _ _ x hx12] at HN;have HE:=jq (show ∀j,j<=12->(if j==x then true else(nums.any (fun y=>y.1==j)||(more.take k).contains j))=(nums.any (fun y=>y.1==j)||(more.take (k+1)).contains j) from fun j _=>Ze0 hx j);clear hc hx hx12;go_wp2_with fail
    go_roundw
    case rel=>exact⟨k+1,by omega,by go_num,by show Kp _ _ _;rw[<-YO HE.out];exact HN.out⟩
    case measure=>simp[intOf];omega
   ·obtain rfl:k=n:=by omega
    have HT:=jq (show more.take k=more from List.take_of_length_le (by rw[<-hs.1];exact Nat.le_refl _));obtain⟨pb,hpb⟩:∃pb,pb=kB word cls (fun j=>nums.any (fun x=>x.1==j)||(more.take k).contains j) (.map none) false:=⟨_,rfl⟩
    have hp1:pb.size=17:=by rw[hpb];rfl
    have hp2:pb.all (·.oneCell')=true:=by rw[hpb];exact VB _ _ _ _ _ rfl
    rw[<-hpb] at HK;have hl:=ZbB (HK.out.at_ 0 rfl) hp1;have hst:=VC (pb:=pb) (HK.out.at_ 1 rfl) rfl hp1 hp2;have HR:=jq (HK.out.row 1 rfl pb);rw[HT.out] at hpb;have HPB:=jq hpb;clear hpb hp2 HK;go_wp2_with fail
    have hrl:=run_loadVar_row (P:=Tryz.prog) _ w.1.size 104 104 pb (0,0) _ (HR.out.at_ 1 rfl) Tryz.underlying104 rfl (by rw[hp1];kernel_rfl);refine bodyPost_ret (v:=.agg pb) (by simp[results,Tryz.results108,asAddr,hrl]) rfl ?_;exact⟨by rw[HPB.out],HR.out.bl⟩
 ·rcases HM.out with ⟨h,_⟩|⟨b',kk,h,m,⟨D,hown,hD⟩,hI⟩
  ·cases h
  injection h with h;injection h with h;subst h;have hbw:b<w.1.size:=HLT.out b rfl;have HI:=jq hI;have HD:=jq hD;clear hI hD
  go_wp2_with (first
   |(at_range;refine wpList_range_own _ rfl _ 102 rfl 3 139 (Maps.int_keyed Tryz.underlying3) Tryz.underlying102 _ b kk _ rfl hown ?_;intro w0 hrg0 hg0 hs0)
   |go_in)
  go_frame
  have HK0:=jq (H3.out.here (show Below W.1.size W w0 from⟨hg0.os,hg0.tape,hg0.output,hg0.size,fun k hk=>hg0.block k hk (by simp)⟩));have HW:=jq (show W.1.size=w.1.size+2 from HSZ.out);clear hg0 hs0
  go_loopw [10] (fun _ wr=>∃(left:Lit->Bool) (cnt:Nat),Hid (wr.ranges Tryz.prog 3 Zj1 b W.1.size kk D left cnt)/\Hid (Kp w [(w.1.size+1,kB word cls (fun j=>Maps.has D (.int .i64 (j:Int))&& !left (.int .i64 (j:Int))) (.map (some b)) false,104),(w.1.size,#[.string ⟨#[]⟩,.int .i64 0,.bool false,.bool false,.bool false,.bool false,.bool false,.bool false,.bool false,.bool false,.bool false,.bool false,.bool false,.bool false,.bool false,.map none,.bool false],104)] wr)) (fun _ wr=>wr.rangeLeft b W.1.size)
  case atStart=>
   refine⟨_,_,hrg0,?_⟩
   show Kp _ _ _
   rw[YO (q:=fun _=>false) (fun j _=>by simp)];exact HK0.out
  case round=>
   obtain⟨left,cnt,HRG,HK⟩:=hrel
   clear hrg0 HK0
   go_wp2_with (first
    |(at_next;refine wpList_next_ranges _ rfl _ rfl 3 (Maps.int_keyed Tryz.underlying3) Zj1 (Value.int .i64) (fun v:Value=>v) (fun key kl hkey=>by obtain⟨x,rfl,_⟩:=Maps.keyOf_int_inv Tryz.underlying3 hkey;exact⟨x,rfl⟩) (fun v y hv=>⟨v,rfl⟩) b W.1.size kk D left cnt rfl HRG.out ?_ ?_)
    |go_in)
   ·intro hc0 hl0
    replace HK:=jq (show Kp w [(w.1.size+1,kB word cls (fun j=>nums.any (fun x=>x.1==j)) (.map (some b)) false,104),(w.1.size,#[.string ⟨#[]⟩,.int .i64 0,.bool false,.bool false,.bool false,.bool false,.bool false,.bool false,.bool false,.bool false,.bool false,.bool false,.bool false,.bool false,.bool false,.map none,.bool false],104)] wr by
     have h:=HK.out
     rwa [YO (q:=fun j=>nums.any (fun x=>x.1==j)) (fun j _=>by rw[hl0,Bool.not_false,Bool.and_true,(HD.out.2 _).1,ZlV HI.out])] at h)
    clear hl0 hc0 HRG;go_wp2_with fail
    go_loopw [12,28] (fun _ i wr=>∃k:Nat,k<=n/\i=.int .i64 k/\Hid (Kp w [(w.1.size+1,kB word cls (fun j=>nums.any (fun x=>x.1==j)||(more.take k).contains j) (.map (some b)) false,104),(w.1.size,#[.string ⟨#[]⟩,.int .i64 0,.bool false,.bool false,.bool false,.bool false,.bool false,.bool false,.bool false,.bool false,.bool false,.bool false,.bool false,.bool false,.bool false,.map none,.bool false],104)] wr)) (fun _ i _=>n-(intOf i).toNat)
    case atStart=>exact⟨0,Nat.zero_le _,rfl,by show Kp _ _ _;rw[List.take_zero,YO (q:=fun j=>nums.any (fun x=>x.1==j)) (fun j _=>by simp)];exact HK.out⟩
    case round=>
     clear HK;obtain⟨k,hk,rfl,HK⟩:=hrel
     by_cases hlt:k<n
     ·obtain⟨a0,off,x,rfl,hb,hx,hc⟩:=(hs.below HK.out.bl).at_ hlt
      have d0:wr.cell? ⟨a0,off+k,none⟩=some (.int .i64 (x:Int)):=by have:=hc 0 _ rfl;rwa [Nat.mul_one,Nat.add_zero] at this
      have hx12:x<=12:=hmo x (List.mem_of_getElem? hx);have i1:(0:Int)<=(x:Int):=by omega
      have i2:(x:Int)<13:=by omega
      have c0:=HK.out.c 0 (2+x) rfl (ZdO _ _ _ _ _ x hx12);have f0:=HK.out.f 0 (2+x) rfl;have HN:=jq (HK.out.set 0 (2+x) rfl (.bool true));rw[ZfK _ _ _ _ _ x hx12] at HN;have HE:=jq (show ∀j,j<=12->(if j==x then true else(nums.any (fun y=>y.1==j)||(more.take k).contains j))=(nums.any (fun y=>y.1==j)||(more.take (k+1)).contains j) from fun j _=>Ze0 hx j);clear hc hx hx12;go_wp2_with fail
      go_roundw
      case rel=>exact⟨k+1,by omega,by go_num,by show Kp _ _ _;rw[<-YO HE.out];exact HN.out⟩
      case measure=>simp[intOf];omega
     ·obtain rfl:k=n:=by omega
      have HT:=jq (show more.take k=more from List.take_of_length_le (by rw[<-hs.1];exact Nat.le_refl _));obtain⟨pb,hpb⟩:∃pb,pb=kB word cls (fun j=>nums.any (fun x=>x.1==j)||(more.take k).contains j) (.map (some b)) false:=⟨_,rfl⟩
      have hp1:pb.size=17:=by rw[hpb];rfl
      have hp2:pb.all (·.oneCell')=true:=by rw[hpb];exact VB _ _ _ _ _ rfl
      rw[<-hpb] at HK;have hl:=ZbB (HK.out.at_ 0 rfl) hp1;have hst:=VC (pb:=pb) (HK.out.at_ 1 rfl) rfl hp1 hp2;have HR:=jq (HK.out.row 1 rfl pb);rw[HT.out] at hpb;have HPB:=jq hpb;clear hpb hp2 HK;go_wp2_with fail
      have hrl:=run_loadVar_row (P:=Tryz.prog) _ w.1.size 104 104 pb (0,0) _ (HR.out.at_ 1 rfl) Tryz.underlying104 rfl (by rw[hp1];kernel_rfl);refine bodyPost_ret (v:=.agg pb) (by simp[results,Tryz.results108,asAddr,hrl]) rfl ?_;exact⟨by rw[HPB.out],HR.out.bl⟩
   ·intro x c kl y ps w1 cnt1 hkey hlx hR hat hrg1 hlt hg1 hs1 hen;obtain⟨x',ex,rfl,_⟩:=Maps.keyOf_int_inv Tryz.underlying3 hkey
    injection ex with _ ex;subst ex;have hhas:Maps.has D (.int .i64 x)=true:=Maps.has_true_of_atKey hat
    obtain⟨i,hi,rfl⟩:∃i:Nat,i<=12/\x=(i:Int):=by
     have h1:=(HD.out.2 x).1;rw[hhas] at h1;obtain⟨v,hv⟩:=Option.isSome_iff_exists.1 h1.symm
     exact ZlU HI.out hv hn
    have HK1:=HK.out.grow hg1 (by have:=HW.out;omega) (fun q hq=>by
     simp only[List.mem_cons,List.mem_nil_iff,or_false] at hq;have:=HW.out
     rcases hq with rfl|rfl<;>simp only<;>omega)
    have i1:(0:Int)<=(i:Int):=by omega
    have i2:(i:Int)<13:=by omega
    have c0:=HK1.c 0 (2+i) rfl (ZdO _ _ _ _ _ i hi);have f0:=HK1.f 0 (2+i) rfl;have HN:=jq (HK1.set 0 (2+i) rfl (.bool true));rw[ZfK _ _ _ _ _ i hi] at HN;have HRN:=jq (hrg1.kept (Zd3 w1 (w.1.size+1) (2+i) (.bool true)) (by simp;omega) (by have:=HW.out;simp;omega));have HE:=jq (show ∀j,j<=12->(if j==i then true else(Maps.has D (.int .i64 (j:Int))&& !left (.int .i64 (j:Int))))=(Maps.has D (.int .i64 (j:Int))&& !(left (.int .i64 (j:Int))&& !(Lit.int .i64 (j:Int)).sameKey (.int .i64 (i:Int)))) from fun j _=>ZlW hhas);have HRO:=jq hrg1.left_eq;clear hkey hlx hR hat hg1 hs1 hhas HK1 hrg1;go_wp2_with fail
    go_roundw
    case rel=>exact⟨_,cnt1,HRN,by show Kp _ _ _;rw[<-YO HE.out];exact HN.out⟩
    case measure=>rw[HRN.out.left_eq,HRG.out.left_eq];exact hlt
end
end Go.Proofs.YtmfjmngebldanaaGreatDoor
