/- . -/
import Derived.Test.YtpnncoinlopndaaGreatDoorQGMp22
import Derived.Test.YtpnncoinlopndaaGreatDoorQGMp21
set_option maxRecDepth 20000
set_option maxHeartbeats 2000000
namespace Go.Proofs.YtpnncoinlopndaaGreatDoor
open Go.Lib renaming hid→jq
section
open Go.RowKit Go.Shelf
attribute [local go_sem ↓] Go.wp_at_zero Go.wp_at_succ
theorem ZhG(cs:List UInt8)(k:Nat)(w:World)(hk:1<=k)(hk2:k<=1000000)(hc:cs.length<=50000):
 Calls Tryz.prog 37 #[S cs,.int .i64 k] w fun e w'=>e=.returned (S (QO cs k))/\w=w':=by
 have HOF:=jq (fun W=>ZbN (k:Int) (by omega) (by omega) W);have hl:(Qa (k:Int)).length<=8:=Qd (n:=(k:Int)) (L:=7) (by simp;omega);have HPR:=jq (fun W=>ZhE (Qa (k:Int)) W (by omega));rw[Zet k hk] at HPR;have HDL:=jq (show(QN k).length<=8 by rw[<-XU k];exact hl);have HID:=jq (show QO cs k=cs++47::QN k from rfl);generalize QO cs k=res at*;generalize Qa (k:Int)=tk at*;generalize QN k=dk at*;have hdl:dk.length<=8:=by have:=HDL.out;omega
 have hs1:∀w,(Op.stringOp .add ⟨cs.toArray⟩ ⟨#[47]⟩).run Tryz.prog w=.ok (.string ⟨(cs++[47]).toArray⟩) w:=fun w=>run_string_add_lists w cs [47] (by omega) (by simp)
 have hs2:∀w,(Op.stringOp .add ⟨(cs++[47]).toArray⟩ ⟨dk.toArray⟩).run Tryz.prog w=.ok (.string ⟨((cs++[47])++dk).toArray⟩) w:=fun w=>run_string_add_lists w (cs++[47]) dk (by simp;omega) (by omega)
 have HR:=jq (show(cs++[47])++dk=res by rw[HID.out];simp);clear hk hk2 hl hc hdl HID HDL;rw[HR.out] at hs2;generalize cs++[47]=cs2 at*;unfold S at*
 go_enter Tryz.func37,Tryz.ntmps37
 go_wp2_with fail
 refine(HOF.out _).mono ?_;rintro e w1 ⟨rfl,rfl⟩;go_wp2_with fail
 refine(HPR.out _).mono ?_;rintro e w1 ⟨rfl,rfl⟩;go_wp2_with fail
 first|go_ret|skip
 exact⟨rfl,rfl⟩
theorem Zjm(A:Option Addr)(n c:Nat)(ls:List Lot)(x:Lot)(w:World)(hs:QU w w.1.size A n ls)(hA:(A=none/\c=0)\/∃g,A=some ⟨g,0,none⟩)(hcap:n<=c)(hc:c<=maxLen)(hn:n<=1000000):
 Calls Tryz.prog 39 #[.slice A n c,XY x] w (RetOwn L7 7 54 w.1.size w (XG ls x)):=by
 have HPO:=jq (show RetOwn L7 7 54 w.1.size w (XG ls x)=fun e w'=>∃A c,e=.returned (.slice A (XG ls x).length c)/\Own L7 7 54 w' w.1.size (.slice A (XG ls x).length c) (XG ls x)/\Below w.1.size w w' from rfl);have HPL:=jq (show XG ls x=ls.take (Xj ls x.inst)++x::ls.drop (Xj ls x.inst) from rfl);generalize RetOwn L7 7 54 w.1.size w (XG ls x)=post at*;generalize XG ls x=pl at*;have HNW:=jq hs.1;have HS:=jq hs;have HB0:=jq ((Below.refl w.1.size w).alloc (Nat.le_refl _) (.cells #[.string ⟨x.id.toArray⟩,.string ⟨x.inst.toArray⟩,.int .i64 x.acq,.int .i64 x.opn,.string ⟨x.q.toArray⟩,.string ⟨x.c.toArray⟩,.string ⟨x.u.toArray⟩] 54));have HX0:=jq (show BlkB (w.alloc (.cells #[.string ⟨x.id.toArray⟩,.string ⟨x.inst.toArray⟩,.int .i64 x.acq,.int .i64 x.opn,.string ⟨x.q.toArray⟩,.string ⟨x.c.toArray⟩,.string ⟨x.u.toArray⟩] 54)) w.1.size #[.string ⟨x.id.toArray⟩,.string ⟨x.inst.toArray⟩,.int .i64 x.acq,.int .i64 x.opn,.string ⟨x.q.toArray⟩,.string ⟨x.c.toArray⟩,.string ⟨x.u.toArray⟩] 54 from heap_alloc_new w _);have HSZ:=jq (show(w.alloc (.cells #[.string ⟨x.id.toArray⟩,.string ⟨x.inst.toArray⟩,.int .i64 x.acq,.int .i64 x.opn,.string ⟨x.q.toArray⟩,.string ⟨x.c.toArray⟩,.string ⟨x.u.toArray⟩] 54)).heap.size=w.1.size+1 by simp);clear hs;unfold XY S
 rcases hA with ⟨rfl,rfl⟩|⟨g,rfl⟩
 ·obtain rfl:n=0:=by omega
  have HL:=jq (show ls=[] from List.length_eq_zero_iff.1 HNW.out.symm);have HP1:=jq (show pl=[x] by rw[HPL.out,HL.out];rfl);clear HPL;go_enter Tryz.func39,Tryz.ntmps39
  go_wp2_with fail
  generalize w.alloc _=W0 at*
  go_loopw [5] (fun i wr=>i=.int .i64 0/\Hid (Below W0.1.size W0 wr)) (fun i _=>(intOf i).toNat)
  case atStart=>exact⟨rfl,Below.refl _ _⟩
  case round=>
   obtain⟨rfl,HB⟩:=hrel
   go_upto_region 2 with (fail)
   go_cut [21] (fun b wc=>b=.bool false/\Hid (Below W0.1.size W0 wc))
   case first=>
    go_region
    all_goals
     go_wp2_with fail
     go_meet
     exact⟨rfl,HB.out.drew⟩
   case rest=>
   obtain⟨rfl,HC⟩:=hcut
   have hW0:=HSZ.out;have HBX:=jq (show Below w.1.size w wc from HB0.out.trans (HC.out.mono (by omega)));have HXW:=jq ((HX0.out.here HC.out));have HO0:=jq (Own.lit (enc:=L7) (k:=7) (base:=w.1.size) wc #[] 54 [] rfl Ql HBX.out.size (by simp));have HB1:=jq (HBX.out.alloc HBX.out.size (.cells #[] 54));have HX1:=jq (HXW.out.alloc (.cells #[] 54));have HWC:=jq (show w.1.size<wc.1.size from HXW.out.lt)
   go_upto_region 5 with (at_builtin;refine Qt _ rfl (.tmp 24) (.tmp 27) _ rfl Xg Ql Xh (base:=w.1.size) _ [] rfl HO0.out 0 _ _ _ [] rfl Sl.nil (by simp) HB1.out.size ?_
                          intro A4 c4 w6 ho4 hg4 _)
   have HG4:=jq (show(wc.alloc (.cells #[] 54)).grownBy w6 (some wc.1.size) from hg4);have HB6:=jq (Qm HB1.out HG4.out HB1.out.size (fun g hg=>by injection hg with hg;rw[<-hg];exact HBX.out.size));have HX6:=jq (show BlkB w6 w.1.size #[.string ⟨x.id.toArray⟩,.string ⟨x.inst.toArray⟩,.int .i64 x.acq,.int .i64 x.opn,.string ⟨x.q.toArray⟩,.string ⟨x.c.toArray⟩,.string ⟨x.u.toArray⟩] 54 from(HG4.out.block w.1.size HX1.out.lt (fun e=>by injection e with e;have:=HWC.out;omega)).trans HX1.out);have HO6:=jq (show Own L7 7 54 w6 w.1.size (.slice A4 0 c4) [] from ho4);clear ho4 hg4;obtain⟨c0,c1,c2,c3,c4_,c5,c6⟩:=s7b HX6.out
   have HO7:=jq (HO6.out.alloc (.cells #[.string ⟨x.id.toArray⟩,.string ⟨x.inst.toArray⟩,.int .i64 x.acq,.int .i64 x.opn,.string ⟨x.q.toArray⟩,.string ⟨x.c.toArray⟩,.string ⟨x.u.toArray⟩] 54));have HB7:=jq (HB6.out.alloc HB6.out.size (.cells #[.string ⟨x.id.toArray⟩,.string ⟨x.inst.toArray⟩,.int .i64 x.acq,.int .i64 x.opn,.string ⟨x.q.toArray⟩,.string ⟨x.c.toArray⟩,.string ⟨x.u.toArray⟩] 54));have HL7:=jq (show QU (w6.alloc (.cells #[.string ⟨x.id.toArray⟩,.string ⟨x.inst.toArray⟩,.int .i64 x.acq,.int .i64 x.opn,.string ⟨x.q.toArray⟩,.string ⟨x.c.toArray⟩,.string ⟨x.u.toArray⟩] 54)) (w6.alloc (.cells #[.string ⟨x.id.toArray⟩,.string ⟨x.inst.toArray⟩,.int .i64 x.acq,.int .i64 x.opn,.string ⟨x.q.toArray⟩,.string ⟨x.c.toArray⟩,.string ⟨x.u.toArray⟩] 54)).heap.size (some ⟨w6.1.size,0,none⟩) 1 [x] from Zfe (heap_alloc_new w6 _))
   go_upto_region 6 with (at_builtin;refine Qt _ rfl (.tmp 29) (.tmp 31) _ rfl Xg Ql Xh (base:=w.1.size) _ [] rfl HO7.out _ _ 1 1 [x] rfl HL7.out (by simp) HB7.out.size ?_
                          intro A5 c5_ w7 ho5 hg5 _)
   have HG5:=jq (show(w6.alloc (.cells #[.string ⟨x.id.toArray⟩,.string ⟨x.inst.toArray⟩,.int .i64 x.acq,.int .i64 x.opn,.string ⟨x.q.toArray⟩,.string ⟨x.c.toArray⟩,.string ⟨x.u.toArray⟩] 54)).grownBy w7 (Value.slice A4 0 c4).ownBlock from hg5)
   have HB8:=jq (Qm HB7.out HG5.out HB7.out.size (fun g hg=>by
    obtain⟨A',c',hv,_,_,_,h4⟩:=HO7.out.form
    exact(h4 g hg).2.1))
   have HO8:=jq ho5;clear ho5 hg5 c0 c1 c2 c3 c4_ c5 c6
   go_wp2_with (at_builtin;refine Qt _ rfl (.tmp 33) (.tmp 36) _ rfl Xg Ql Xh (base:=w.1.size) _ [x] rfl HO8.out 0 _ _ _ [] rfl Sl.nil (by simp) HB8.out.size ?_
                intro A6 c6 w8 ho6 hg6 _)
   first|go_ret|skip
   rw[HPO.out,HP1.out];refine⟨A6,c6,rfl,ho6,Qm HB8.out hg6 HB8.out.size (fun g hg=> ?_)⟩;obtain⟨A',c',hv,_,_,_,h4⟩:=HO8.out.form
   exact(h4 g hg).2.1
 ·go_enter Tryz.func39,Tryz.ntmps39
  go_wp2_with fail
  generalize w.alloc _=W0 at*
  go_loopw [5] (fun i wr=>∃k:Nat,k<=n/\i=.int .i64 k/\Hid (Xj (ls.take k) x.inst=Xj ls x.inst)/\Hid (Below W0.1.size W0 wr)) (fun i _=>(intOf i).toNat)
  case atStart=>exact⟨n,Nat.le_refl _,rfl,by show _=_;rw[List.take_of_length_le (by have:=HNW.out;omega)],Below.refl _ _⟩
  case round=>
   obtain⟨k,hk,rfl,HP,HB⟩:=hrel
   have c1:wr.cell? ⟨w.1.size,1,none⟩=some (.string ⟨x.inst.toArray⟩):=(HX0.out.here HB.out).cell 1 rfl
   have hcs:k=0\/∃j y,k=j+1/\ls[j]?=some y/\wr.cell? ⟨g,j*7+1,none⟩=some (.string ⟨y.inst.toArray⟩):=by
    cases k with
    |zero=>exact .inl rfl
    |succ k=>
     obtain⟨b,off,y,e,hb,hy,d0,d1,d2,d3,d4,d5,d6⟩:=((HS.out.below HB0.out).below (HB.out.mono (by have:=HSZ.out;omega))).lot7 (show k<n by omega)
     injection e with e;injection e with e1 e2;subst e1;subst e2
     exact .inr ⟨k,y,rfl,hy,by rw[Nat.zero_add] at d1;exact d1⟩
   go_upto_region 2 with (fail)
   obtain⟨bt,hbt⟩:∃b:Bool,b=decide (k≠Xj ls x.inst):=⟨_,rfl⟩
   have HBT:=jq hbt;clear hbt
   go_cut [21] (fun b wc=>b=.bool bt/\Hid (Below W0.1.size W0 wc))
   case first=>
    rcases hcs with rfl|⟨j,y,rfl,hy,d1⟩
    ·obtain rfl:bt=false:=by rw[HBT.out,<-HP.out];simp[Xj]
     go_region
     all_goals
      go_wp2_with fail
      go_meet
      exact⟨rfl,HB.out.drew⟩
    ·have i1:(0:Int)<=(j:Int):=by omega
     have i2:(j:Int)<(n:Int):=by omega
     have i3:(0:Int)<(j:Int)+1:=by omega
     have hwj:IntKind.i64.wrap (j:Int)=(j:Int):=IntWalk.i64_in _ (by omega);have HPT:=jq ((Za9 x.inst hy).symm.trans HP.out);have hpl:=Zcg (ls.take j) x.inst;rw[List.length_take] at hpl;clear hy
     cases hle:leS y.inst x.inst with
     |true=>
      have hle2:(Op.bytesLess y.inst x.inst||y.inst==x.inst)=true:=hle;rw[if_pos hle] at HPT;obtain rfl:bt=false:=by rw[HBT.out,<-HPT.out];simp
      clear hle hpl
      go_region
      all_goals
       go_wp2_with fail
       go_meet
       exact⟨rfl,HB.out.drew⟩
     |false=>
      have hle2:(Op.bytesLess y.inst x.inst||y.inst==x.inst)=false:=hle;rw[if_neg (by simp[hle])] at HPT;obtain rfl:bt=true:=by rw[HBT.out,<-HPT.out];simp;omega
      clear hle hpl
      go_region
      all_goals
       go_wp2_with fail
       go_meet
       exact⟨rfl,HB.out.drew⟩
   case rest=>
   obtain⟨rfl,HC⟩:=hcut
   by_cases hke:k=Xj ls x.inst
   ·obtain rfl:bt=false:=by rw[HBT.out];exact decide_eq_false (fun h=>h hke)
    have HKE:=jq hke;rw[<-hke] at HPL;have hW0:=HSZ.out;have HBX:=jq (show Below w.1.size w wc from HB0.out.trans (HC.out.mono (by omega)));have HXW:=jq ((HX0.out.here HC.out));have HSL:=jq (HS.out.below HBX.out);clear hke hcs c1;have i1:(0:Int)<=(k:Int):=by omega
    have i2:(k:Int)<=(c:Int):=by omega
    have i3:(k:Int)<=(n:Int):=by omega
    have i4:(n:Int)<=(c:Int):=by omega
    have HO0:=jq (Own.lit (enc:=L7) (k:=7) (base:=w.1.size) wc #[] 54 [] rfl Ql HBX.out.size (by simp));have HB1:=jq (HBX.out.alloc HBX.out.size (.cells #[] 54));have HX1:=jq (HXW.out.alloc (.cells #[] 54));have HS1:=jq ((HSL.out.alloc HBX.out.size (.cells #[] 54)));have HT1:=jq (HS1.out.take hk);have HWC:=jq (show w.1.size<wc.1.size from HXW.out.lt);have HLT:=jq (show(ls.take k).length=k by rw[List.length_take];have:=HNW.out;omega);have HLD:=jq (show(ls.drop k).length=n-k by rw[List.length_drop,HNW.out]);have HDR:=jq (fun W (h:Below w.1.size w W)=>(HS.out.below h).drop hk);generalize ls.take k=P at*;generalize ls.drop k=D at*
    go_upto_region 5 with (at_builtin;refine Qt _ rfl (.tmp 24) (.tmp 27) _ rfl Xg Ql Xh (base:=w.1.size) _ [] rfl HO0.out _ _ k c P rfl HT1.out (by simp;omega) HB1.out.size ?_
                           intro A4 c4 w6 ho4 hg4 _)
    have HG4:=jq (show(wc.alloc (.cells #[] 54)).grownBy w6 (some wc.1.size) from hg4);have HB6:=jq (Qm HB1.out HG4.out HB1.out.size (fun g hg=>by injection hg with hg;rw[<-hg];exact HBX.out.size));have HX6:=jq (show BlkB w6 w.1.size #[.string ⟨x.id.toArray⟩,.string ⟨x.inst.toArray⟩,.int .i64 x.acq,.int .i64 x.opn,.string ⟨x.q.toArray⟩,.string ⟨x.c.toArray⟩,.string ⟨x.u.toArray⟩] 54 from(HG4.out.block w.1.size HX1.out.lt (fun e=>by injection e with e;have:=HWC.out;omega)).trans HX1.out);have HO6:=jq (show Own L7 7 54 w6 w.1.size (.slice A4 k c4) P from by simpa using ho4);clear ho4 hg4;obtain⟨c0,c1,c2,c3,c4_,c5,c6⟩:=s7b HX6.out
    have HO7:=jq (HO6.out.alloc (.cells #[.string ⟨x.id.toArray⟩,.string ⟨x.inst.toArray⟩,.int .i64 x.acq,.int .i64 x.opn,.string ⟨x.q.toArray⟩,.string ⟨x.c.toArray⟩,.string ⟨x.u.toArray⟩] 54));have HB7:=jq (HB6.out.alloc HB6.out.size (.cells #[.string ⟨x.id.toArray⟩,.string ⟨x.inst.toArray⟩,.int .i64 x.acq,.int .i64 x.opn,.string ⟨x.q.toArray⟩,.string ⟨x.c.toArray⟩,.string ⟨x.u.toArray⟩] 54));have HL7:=jq (show QU (w6.alloc (.cells #[.string ⟨x.id.toArray⟩,.string ⟨x.inst.toArray⟩,.int .i64 x.acq,.int .i64 x.opn,.string ⟨x.q.toArray⟩,.string ⟨x.c.toArray⟩,.string ⟨x.u.toArray⟩] 54)) (w6.alloc (.cells #[.string ⟨x.id.toArray⟩,.string ⟨x.inst.toArray⟩,.int .i64 x.acq,.int .i64 x.opn,.string ⟨x.q.toArray⟩,.string ⟨x.c.toArray⟩,.string ⟨x.u.toArray⟩] 54)).heap.size (some ⟨w6.1.size,0,none⟩) 1 [x] from Zfe (heap_alloc_new w6 _))
    go_upto_region 6 with (at_builtin;refine Qt _ rfl (.tmp 29) (.tmp 31) _ rfl Xg Ql Xh (base:=w.1.size) _ P rfl HO7.out _ _ 1 1 [x] rfl HL7.out (by rw[HLT.out];omega) HB7.out.size ?_
                           intro A5 c5_ w7 ho5 hg5 _)
    have HG5:=jq (show(w6.alloc (.cells #[.string ⟨x.id.toArray⟩,.string ⟨x.inst.toArray⟩,.int .i64 x.acq,.int .i64 x.opn,.string ⟨x.q.toArray⟩,.string ⟨x.c.toArray⟩,.string ⟨x.u.toArray⟩] 54)).grownBy w7 (Value.slice A4 k c4).ownBlock from hg5)
    have HB8:=jq (Qm HB7.out HG5.out HB7.out.size (fun g hg=>by
     obtain⟨A',c',hv,_,_,_,h4⟩:=HO7.out.form
     exact(h4 g hg).2.1))
    have HO8:=jq ho5;clear ho5 hg5 c0 c1 c2 c3 c4_ c5 c6
    have hD:(k=c/\Hid (QU w7 w.1.size (some ⟨g,0,none⟩) 0 D)/\Hid (D.length=0))\/(k≠c/\Hid (QU w7 w.1.size (some ⟨g,k*7,none⟩) (n-k) D)/\Hid (D.length=n-k)):=by
     have hl:=HLD.out
     by_cases h:k=c
     ·exact .inl ⟨h,⟨by omega,fun h0=>by omega⟩,(show D.length=0 by omega)⟩
     ·refine .inr ⟨h,?_,hl⟩;have h:=HDR.out _ HB8.out;rw[Nat.zero_add] at h;exact h
    rcases hD with ⟨hkc,HD8,HDL⟩|⟨hkc,HD8,HDL⟩
    all_goals
     go_wp2_with (at_builtin;refine Qt _ rfl (.tmp 33) (.tmp 36) _ rfl Xg Ql Xh (base:=w.1.size) _ (P++[x]) rfl HO8.out _ _ _ _ D rfl HD8.out (by rw[List.length_append,HLT.out];simp;omega) HB8.out.size ?_
                  intro A6 c6 w8 ho6 hg6 _)
     first|go_ret|skip
     have hl:pl.length=P.length+1+D.length:=by rw[HPL];simp;omega
     have hp:P++[x]++D=pl:=by rw[HPL];simp
     rw[HPO.out,hl,HDL.out];rw[hp,List.length_append] at ho6;refine⟨A6,c6,rfl,ho6,Qm HB8.out hg6 HB8.out.size (fun g hg=> ?_)⟩;obtain⟨A',c',hv,_,_,_,h4⟩:=HO8.out.form
     exact(h4 g hg).2.1
   ·obtain rfl:bt=true:=by rw[HBT.out];exact decide_eq_true hke
    rcases hcs with rfl|⟨j,y,rfl,hy,d1⟩
    ·exact absurd (show 0=Xj ls x.inst by rw[<-HP.out];simp[Xj]) hke
    ·have HPT:=jq ((Za9 x.inst hy).symm.trans HP.out)
     have HJ:=jq (show Xj (ls.take j) x.inst=Xj ls x.inst by
      have h:=HPT.out
      split at h
      ·exact absurd h hke
      ·exact h)
     clear hy hke;go_wp2_with fail
     go_roundw
     case rel=>exact⟨j,by omega,by go_num,HJ.out,HC.out⟩
     case measure=>simp[intOf]
def JU(s:Stp)(xs:List Stp)(base:Nat)(A:Option Addr)(c:Nat)(W:World)(e:Ending)(w':World):Prop:=
 ∃A2 c2,e=.returned (.slice A2 (xs++Ye s).length c2)/\Own S6 6 80 w' base (.slice A2 (xs++Ye s).length c2) (xs++Ye s)/\W.grownBy w' (Value.slice A xs.length c).ownBlock
theorem ZdE(s:Stp)(base c:Nat)(A:Option Addr)(xs:List Stp)(w:World)(ho:Own S6 6 80 w base (.slice A xs.length c) xs)(hl:xs.length<=100000)(hb:base<=w.1.size):
 Calls Tryz.prog 40 #[.slice A xs.length c,.agg (Zcj s)] w (JU s xs base A c w):=by
 have HPO:=jq (show JU s xs base A c w=fun e w'=>∃A2 c2,e=.returned (.slice A2 (xs++Ye s).length c2)/\Own S6 6 80 w' base (.slice A2 (xs++Ye s).length c2) (xs++Ye s)/\w.grownBy w' (Value.slice A xs.length c).ownBlock from rfl);generalize JU s xs base A c w=post at*;have HB:=jq (show BlkB (w.alloc (.cells #[.string ⟨s.cause.toArray⟩,.string ⟨s.src.toArray⟩,.string ⟨s.dst.toArray⟩,.string ⟨s.q.toArray⟩,.string ⟨s.made.toArray⟩,.string ⟨s.cost.toArray⟩] 80)) w.1.size #[.string ⟨s.cause.toArray⟩,.string ⟨s.src.toArray⟩,.string ⟨s.dst.toArray⟩,.string ⟨s.q.toArray⟩,.string ⟨s.made.toArray⟩,.string ⟨s.cost.toArray⟩] 80 from heap_alloc_new w _);have HO:=jq (ho.alloc (.cells #[.string ⟨s.cause.toArray⟩,.string ⟨s.src.toArray⟩,.string ⟨s.dst.toArray⟩,.string ⟨s.q.toArray⟩,.string ⟨s.made.toArray⟩,.string ⟨s.cost.toArray⟩] 80));have HG:=jq (World.grownBy_alloc w (.cells #[.string ⟨s.cause.toArray⟩,.string ⟨s.src.toArray⟩,.string ⟨s.dst.toArray⟩,.string ⟨s.q.toArray⟩,.string ⟨s.made.toArray⟩,.string ⟨s.cost.toArray⟩] 80) (Value.slice A xs.length c).ownBlock);have HSZ:=jq (show base<=(w.alloc (.cells #[.string ⟨s.cause.toArray⟩,.string ⟨s.src.toArray⟩,.string ⟨s.dst.toArray⟩,.string ⟨s.q.toArray⟩,.string ⟨s.made.toArray⟩,.string ⟨s.cost.toArray⟩] 80)).heap.size by simp;omega);have HL:=jq hl;have HS1:=jq (Zgx (s:=s));have HS0:=jq (Ziu (s:=s))
 have hcase:(s.q.isEmpty=true/\s.made.isEmpty=true/\s.cost.isEmpty=true)\/(s.q.isEmpty=false)\/(s.q.isEmpty=true/\s.made.isEmpty=false)\/(s.q.isEmpty=true/\s.made.isEmpty=true/\s.cost.isEmpty=false):=by
  cases s.q.isEmpty<;>cases s.made.isEmpty<;>cases s.cost.isEmpty<;>simp
 have hq:(s.q==[])=s.q.isEmpty:=by cases s.q<;>rfl
 have hm:(s.made==[])=s.made.isEmpty:=by cases s.made<;>rfl
 have hc:(s.cost==[])=s.cost.isEmpty:=by cases s.cost<;>rfl
 have c3:(w.alloc (.cells #[.string ⟨s.cause.toArray⟩,.string ⟨s.src.toArray⟩,.string ⟨s.dst.toArray⟩,.string ⟨s.q.toArray⟩,.string ⟨s.made.toArray⟩,.string ⟨s.cost.toArray⟩] 80)).cell? ⟨w.1.size,3,none⟩=some (.string ⟨s.q.toArray⟩):=HB.out.cell 3 rfl;have c4:(w.alloc (.cells #[.string ⟨s.cause.toArray⟩,.string ⟨s.src.toArray⟩,.string ⟨s.dst.toArray⟩,.string ⟨s.q.toArray⟩,.string ⟨s.made.toArray⟩,.string ⟨s.cost.toArray⟩] 80)).cell? ⟨w.1.size,4,none⟩=some (.string ⟨s.made.toArray⟩):=HB.out.cell 4 rfl;have c5:(w.alloc (.cells #[.string ⟨s.cause.toArray⟩,.string ⟨s.src.toArray⟩,.string ⟨s.dst.toArray⟩,.string ⟨s.q.toArray⟩,.string ⟨s.made.toArray⟩,.string ⟨s.cost.toArray⟩] 80)).cell? ⟨w.1.size,5,none⟩=some (.string ⟨s.cost.toArray⟩):=HB.out.cell 5 rfl;have c0:(w.alloc (.cells #[.string ⟨s.cause.toArray⟩,.string ⟨s.src.toArray⟩,.string ⟨s.dst.toArray⟩,.string ⟨s.q.toArray⟩,.string ⟨s.made.toArray⟩,.string ⟨s.cost.toArray⟩] 80)).cell? ⟨w.1.size,0,none⟩=some (.string ⟨s.cause.toArray⟩):=HB.out.cell 0 rfl;have c1:(w.alloc (.cells #[.string ⟨s.cause.toArray⟩,.string ⟨s.src.toArray⟩,.string ⟨s.dst.toArray⟩,.string ⟨s.q.toArray⟩,.string ⟨s.made.toArray⟩,.string ⟨s.cost.toArray⟩] 80)).cell? ⟨w.1.size,1,none⟩=some (.string ⟨s.src.toArray⟩):=HB.out.cell 1 rfl;have c2:(w.alloc (.cells #[.string ⟨s.cause.toArray⟩,.string ⟨s.src.toArray⟩,.string ⟨s.dst.toArray⟩,.string ⟨s.q.toArray⟩,.string ⟨s.made.toArray⟩,.string ⟨s.cost.toArray⟩] 80)).cell? ⟨w.1.size,2,none⟩=some (.string ⟨s.dst.toArray⟩):=HB.out.cell 2 rfl;have hne:(w.alloc (.cells #[.string ⟨s.cause.toArray⟩,.string ⟨s.src.toArray⟩,.string ⟨s.dst.toArray⟩,.string ⟨s.q.toArray⟩,.string ⟨s.made.toArray⟩,.string ⟨s.cost.toArray⟩] 80)).heap.size=w.1.size+1:=by simp
 have HN:=jq hne;clear ho hl hb hne;unfold Zcj
 rcases hcase with ⟨h1,h2,h3⟩|hy
 ·have HXS:=jq (show xs++Ye s=xs by rw[HS0.out ⟨List.isEmpty_iff.1 h1,List.isEmpty_iff.1 h2,List.isEmpty_iff.1 h3⟩,List.append_nil]);rw[h1] at hq;rw[h2] at hm;rw[h3] at hc
  go_enter Tryz.func40,Tryz.ntmps40
  go_wp2_with fail
  first|go_ret|skip
  rw[HPO.out,HXS.out];exact⟨A,c,rfl,HO.out,HG.out⟩
 ·have HXS:=jq (show xs++Ye s=xs++[s] by
   rw[HS1.out];rintro⟨e1,e2,e3⟩;rw[e1,e2,e3] at hy;simp at hy)
  have hg:((s.q==[])&&(s.made==[])&&(s.cost==[]))=false:=by
   rw[hq,hm,hc]
   rcases hy with h|⟨h,h2⟩|⟨h,h2,h3⟩<;>simp[*]
  have HO2:=jq (HO.out.alloc (.cells #[.string ⟨s.cause.toArray⟩,.string ⟨s.src.toArray⟩,.string ⟨s.dst.toArray⟩,.string ⟨s.q.toArray⟩,.string ⟨s.made.toArray⟩,.string ⟨s.cost.toArray⟩] 80));have hsl:=Sl.lit (enc:=S6) (k:=6) (w.alloc (.cells #[.string ⟨s.cause.toArray⟩,.string ⟨s.src.toArray⟩,.string ⟨s.dst.toArray⟩,.string ⟨s.q.toArray⟩,.string ⟨s.made.toArray⟩,.string ⟨s.cost.toArray⟩] 80)) (Zcj s) 80 [s] (Zit s) Zcb;unfold Zcj at hsl;rw[HN.out] at hsl;have HSL:=jq hsl;have HG2:=jq (HG.out.trans (World.grownBy_alloc (w.alloc (.cells #[.string ⟨s.cause.toArray⟩,.string ⟨s.src.toArray⟩,.string ⟨s.dst.toArray⟩,.string ⟨s.q.toArray⟩,.string ⟨s.made.toArray⟩,.string ⟨s.cost.toArray⟩] 80)) (.cells #[.string ⟨s.cause.toArray⟩,.string ⟨s.src.toArray⟩,.string ⟨s.dst.toArray⟩,.string ⟨s.q.toArray⟩,.string ⟨s.made.toArray⟩,.string ⟨s.cost.toArray⟩] 80) (Value.slice A xs.length c).ownBlock));have HS2:=jq (show base<=((w.alloc (.cells #[.string ⟨s.cause.toArray⟩,.string ⟨s.src.toArray⟩,.string ⟨s.dst.toArray⟩,.string ⟨s.q.toArray⟩,.string ⟨s.made.toArray⟩,.string ⟨s.cost.toArray⟩] 80)).alloc (.cells #[.string ⟨s.cause.toArray⟩,.string ⟨s.src.toArray⟩,.string ⟨s.dst.toArray⟩,.string ⟨s.q.toArray⟩,.string ⟨s.made.toArray⟩,.string ⟨s.cost.toArray⟩] 80)).heap.size by have:=HSZ.out;rw[World.size_alloc];omega);clear hsl hg
  rcases hy with h1|⟨h1,h2⟩|⟨h1,h2,h3⟩
  all_goals
   rw[h1] at hq
   first|rw[h2] at hm|skip
   first|rw[h3] at hc|skip
   go_enter Tryz.func40,Tryz.ntmps40
   go_wp2_with (at_builtin;refine Qt _ rfl (.tmp 19) (.tmp 21) _ rfl ZeC Zcb Zio (base:=base) _ xs rfl HO2.out _ _ 1 1 [s] rfl HSL.out (by have:=HL.out;omega) HS2.out ?_
                intro A2 c2_ w8 ho8 hg8 _)
   first|go_ret|skip
   rw[HPO.out,HXS.out,List.length_append];exact⟨A2,c2_,rfl,ho8,HG2.out.trans hg8⟩
end
end Go.Proofs.YtpnncoinlopndaaGreatDoor
