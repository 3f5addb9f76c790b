/- Vcp, Vbs. -/
import Derived.Test.YtbcnkcldlealjaaGreatDoorQGVb39
import Derived.Test.YtbcnkcldlealjaaGreatDoorQGVb38
import Derived.Test.YtbcnkcldlealjaaGreatDoorQGVb18
set_option maxRecDepth 100000
set_option maxHeartbeats 4000000
namespace Go.Proofs.YtbcnkcldlealjaaGreatDoor
open Go.Lib renaming hid→jq
open Go.RowKit Go.Shelf
section
attribute [local go_sem] Oper.semAt_some
attribute [local go_sem ↓] Go.wp_at_zero Go.wp_at_succ Qq QA ZaW
theorem Zas(w:World){cs pb:Array Value}(hc:cs.size=17)(hs:pb.size=17)(h1:pb.all (·.oneCell')=true):(stK (.pointer (some ⟨w.1.size,0,none⟩)) (.agg pb)).run Tryz.prog (w.alloc (.cells cs 87))=.ok () (w.alloc (.cells pb 87)):=by
 rw[YP (show BlkB (w.alloc (.cells cs 87)) w.1.size cs 87 from heap_alloc_new w _) hc hs h1,World.setRow_alloc_new]
def ZcI(k:Int):Int:=if(XT k).isSome=true then 0 else 7
theorem Zcc(k:Int)(hk:Jh k)(w:World)(hp:Env w):
 Calls Tryz.prog 81 #[.int .i64 k] w fun e w'=>e=.returned (.tuple #[.int .i64 (QZ k),.int .i64 (ZcI k)])/\Below w.1.size w w':=by
 have HK:=jq (Zb9 w hp);have HI:=jq hk;have HBL:=jq (Below.refl w.1.size w);clear hp hk
 cases hr:XT k with
 |none=>
  have HC:=jq (show QZ k=0 by unfold QZ;rw[hr]);have HE:=jq (show ZcI k=7 by unfold ZcI;rw[hr];rfl);have HR:=jq hr;generalize QZ k=ck at*;generalize ZcI k=ce at*;clear hr;go_enter Tryz.func81,Tryz.ntmps81
  go_wp2_with (go_at_call 60;refine HK.out.mono ?_;rintro e w1 ⟨bm,rfl,hR,hb1⟩;obtain⟨kb,hlk,hkk⟩:=hR.look HI.out;rw[HR.out] at hlk;simp only[Option.isSome] at hlk;have hst:=fun cs (hc:cs.size=17)=>Zas w1 (cs:=cs) hc hkk.size hkk.cell;clear hR hkk)
  go_ret2
  rw[HC.out,HE.out];exact⟨rfl,hb1.alloc hb1.size _⟩
 |some r=>
  have HC:=jq (show QZ k=r.cls by unfold QZ;rw[hr]);have HE:=jq (show ZcI k=0 by unfold ZcI;rw[hr];rfl);have HR:=jq hr;generalize QZ k=ck at*;generalize ZcI k=ce at*;clear hr;go_enter Tryz.func81,Tryz.ntmps81
  go_wp2_with (go_at_call 60;refine HK.out.mono ?_;rintro e w1 ⟨bm,rfl,hR,hb1⟩;obtain⟨kb,hlk,hkk⟩:=hR.look HI.out;rw[HR.out] at hlk;simp only[Option.isSome] at hlk;have hst:=fun cs (hc:cs.size=17)=>Zas w1 (cs:=cs) hc hkk.size hkk.cell;unfold KOk at hkk;rw[HR.out] at hkk;obtain⟨word,mv,rfl,_⟩:=hkk;have hc1:(w1.alloc (.cells (kB word r.cls r.has mv r.code) 87)).cell? ⟨w1.1.size,1,none⟩=some (.int .i64 r.cls):=(cell_of_row _ _ 1 _ _ _ (heap_alloc_new w1 _)).trans rfl;clear hR)
  go_ret2
  rw[HC.out,HE.out];exact⟨rfl,hb1.alloc hb1.size _⟩
theorem YY(f g:Fct)(u v:FaV)(hf:Jh f.kind)(hg:Jh g.kind)(w:World)(hp:Env w):
 Calls Tryz.prog 46 #[.agg (Qa f u),.agg (Qa g v)] w fun e w'=>e=.returned (.int .i64 (Xy f g))/\Below w.1.size w w':=by
 have H:=jq (((Kp.start hp).new w.1.size rfl (Qa f u) 44).new (w.1.size+1) (by simp) (Qa g v) 44);have HC1:=jq (fun W (h:Env W)=>Zcc f.kind hf W h);have HC2:=jq (fun W (h:Env W)=>Zcc g.kind hg W h);have HD:=jq (fun W=>Zhs f.day g.day W);have HI:=jq (fun W=>Zht (QZ f.kind) (QZ g.kind) W);have HS:=jq (fun W=>Zhu f.key g.key W);have HO:=jq (fun W=>Zi0 (Yp f.day g.day) (Yp (QZ f.kind) (QZ g.kind)) (ZcC f.key g.key) W);rw[show or3 (Yp f.day g.day) (Yp (QZ f.kind) (QZ g.kind)) (ZcC f.key g.key)=Xy f g from rfl] at HO;have x4:=H.out.c 1 4 rfl (show(Qa f u)[4]?=some (.int .i64 f.kind) from rfl);have X4:=jq (show(Qa g v)[4]?=some (.int .i64 g.kind) from rfl);have Y3:=jq (show(Qa f u)[3]?=some (.int .i64 f.day) from rfl);have Z3:=jq (show(Qa g v)[3]?=some (.int .i64 g.day) from rfl);have Y0:=jq (show(Qa f u)[0]?=some (.string ⟨f.key.toArray⟩) from rfl);have Z0:=jq (show(Qa g v)[0]?=some (.string ⟨g.key.toArray⟩) from rfl);generalize Qa f u=fb at*;generalize Qa g v=gb at*;generalize Xy f g=res at*;generalize Yp f.day g.day=d at*;generalize Yp (QZ f.kind) (QZ g.kind)=cc at*;generalize ZcC f.key g.key=kk at*;generalize QZ f.kind=cf at*;generalize QZ g.kind=cg at*;generalize ZcI f.kind=ef at*;generalize ZcI g.kind=eg at*;clear hp hf hg;go_enter Tryz.func46,Tryz.ntmps46
 go_upto_region 1 with (fail)
 generalize hW:(w.alloc (.cells fb 44)).alloc (.cells gb 44)=W at*;generalize hp1:w.1.size+1=p1 at*;generalize hp0:w.1.size=p0 at*;clear hW;go_upto_region 2 with (go_at_call 81;refine(HC1.out _ H.out.pw).mono ?_;rintro e w1 ⟨rfl,hb1⟩)
 have H1:=jq (H.out.here hb1);clear x4 H hb1;have y4:=H1.out.c 0 4 rfl X4.out;go_upto_region 3 with (go_at_call 81;refine(HC2.out _ H1.out.pw).mono ?_;rintro e w2 ⟨rfl,hb2⟩)
 have H2:=jq (H1.out.here hb2);clear y4 H1 hb2;have HB:=jq (Below.refl w2.1.size w2);have HO2:=jq (show Calls Tryz.prog 82 #[.slice (some ⟨w2.1.size,0,none⟩) 3 3] (w2.alloc (.cells #[.int .i64 d,.int .i64 cc,.int .i64 kk] 3)).drew (fun e w'=>e=.returned (.int .i64 res)/\Below w2.1.size w2.drew w') from HO.out w2.drew)
 have HZ:=jq (show ∀w',Below w2.1.size w2 w'->w'.cell? ⟨p0,3,none⟩=some (.int .i64 f.day)/\w'.cell? ⟨p1,3,none⟩=some (.int .i64 g.day)/\w'.cell? ⟨p0,0,none⟩=some (.string ⟨f.key.toArray⟩)/\w'.cell? ⟨p1,0,none⟩=some (.string ⟨g.key.toArray⟩) from
  fun w' hb=>⟨(H2.out.here hb).c 1 3 rfl Y3.out,(H2.out.here hb).c 0 3 rfl Z3.out,(H2.out.here hb).c 1 0 rfl Y0.out,(H2.out.here hb).c 0 0 rfl Z0.out⟩)
 have HQ:=jq (show ∀w',Below w2.1.size w2 w'->Below w.1.size w w' from fun w' hb=>(H2.out.here hb).bl)
 go_region_held3 (fun X=>X.cell? ⟨p0,3,none⟩=some (.int .i64 f.day)/\X.cell? ⟨p1,3,none⟩=some (.int .i64 g.day)/\X.cell? ⟨p0,0,none⟩=some (.string ⟨f.key.toArray⟩)/\X.cell? ⟨p1,0,none⟩=some (.string ⟨g.key.toArray⟩))
  (first
    |exact HZ.out _ hz
    |exact HZ.out _ HB.out.drew
    |exact HZ.out _ (HB.out.drew.alloc (Nat.le_refl _) _)
    |exact HZ.out _ HB.out
    |go_keep)
  (first
    |(go_at_call 83;refine(HD.out _).mono ?_;rintro e v1 ⟨rfl,rfl⟩)
    |(go_at_call 84;refine(HI.out _).mono ?_;rintro e v2 ⟨rfl,rfl⟩)
    |(go_at_call 85;refine(HS.out _).mono ?_;rintro e v3 ⟨rfl,rfl⟩)
    |(go_at_call 82;refine(HO2.out).mono ?_;rintro e w3 ⟨rfl,hb3⟩;have hz:Below w2.1.size w2 w3:=HB.out.drew.trans hb3))
 all_goals
  go_wp2_with fail
  first|go_ret|skip
  exact⟨rfl,HQ.out _ hz⟩
end
section
attribute [local go_sem] Oper.semAt_some
attribute [local go_sem ↓] Go.wp_at_zero Go.wp_at_succ Qq QA
structure BsAt (fs:List Fct) (f:Fct) (lo hi:Nat):Prop where
 le:lo<=hi
 len:hi<=fs.length
 lt:∀q g,q<lo->fs[q]?=some g->JD g f
 ge:∀q g,hi<=q->fs[q]?=some g->¬JD g f
theorem BsAt.up{fs:List Fct}{f g:Fct}{lo hi h:Nat}(b:BsAt fs f lo hi)(hs:Srt fs)(hh:h<hi)(hg:fs[h]?=some g)(hb:JD g f):BsAt fs f (h+1) hi:=by
 refine⟨hh,b.len,fun q x hq hx=> ?_,b.ge⟩
 rcases Nat.lt_or_ge q h with h1|h1
 ·obtain⟨hq1,rfl⟩:=List.getElem?_eq_some_iff.1 hx
  obtain⟨hh1,rfl⟩:=List.getElem?_eq_some_iff.1 hg
  exact XJ (List.pairwise_iff_getElem.1 hs q h hq1 hh1 h1) hb
 ·obtain rfl:q=h:=by omega
  rw[hg] at hx;rw[<-Option.some.inj hx];exact hb
theorem BsAt.down{fs:List Fct}{f g:Fct}{lo hi h:Nat}(b:BsAt fs f lo hi)(hs:Srt fs)(hl:lo<=h)(hh:h<hi)(hg:fs[h]?=some g)(hb:¬JD g f):BsAt fs f lo h:=by
 refine⟨hl,by have:=b.len;omega,b.lt,fun q x hq hx hbx=> ?_⟩
 rcases Nat.lt_or_ge h q with h1|h1
 ·obtain⟨hq1,rfl⟩:=List.getElem?_eq_some_iff.1 hx
  obtain⟨hh1,rfl⟩:=List.getElem?_eq_some_iff.1 hg
  exact hb (XJ (List.pairwise_iff_getElem.1 hs h q hh1 hq1 h1) hbx)
 ·obtain rfl:q=h:=by omega
  rw[hg] at hx;rw[<-Option.some.inj hx] at hbx;exact hb hbx
theorem ZhZ(A:Option Addr)(n c:Nat)(xs:List Fx)(f:Fct)(v:FaV)(w:World)(hp:Env w)(hs:Fxs w w.1.size A n xs)(hn:n<=100000)(hk:Jh f.kind)(hso:Srt (xs.map (·.1))):
 Calls Tryz.prog 67 #[.slice A n c,.agg (Qa f v),.func (.func 46) #[] #[]] w fun e w'=>∃(i:Nat) (b:Bool),e=.returned (.tuple #[.int .i64 (i:Nat),.bool b])/\BsAt (xs.map (·.1)) f i i/\Below w.1.size w w':=by
 have HS:=jq hs;have HNW:=jq hs.len;have H:=jq ((Kp.start hp).new w.1.size rfl (Qa f v) 44);have HSO:=jq hso;have HC:=jq (fun(g:Fct) (u:FaV) (hg:Jh g.kind) W (hp:Env W)=>YY g f u v hg hk W hp);have eg:∀args w,(callFunc 46 args).run Tryz.prog w=.ok (.enter 46 args) w:=enters_of Tryz.func46 (by kernel_rfl) rfl;clear hs hp hso hk;go_enter Tryz.func67,Tryz.ntmps67
 go_wp2_with fail
 generalize w.alloc (.cells (Qa f v) 44)=W0 at*;obtain⟨p0,hp0⟩:∃p0,w.1.size=p0:=⟨_,rfl⟩
 have HP0:=jq hp0;rw[hp0] at H ⊢;clear hp0
 go_loopw [9,10,11] (fun i' j' _ wr=>∃(lo hi:Nat),i'=.int .i64 lo/\j'=.int .i64 hi/\hi<=n/\lo<=hi/\Hid (BsAt (xs.map (·.1)) f lo hi)/\Hid (Kp w [(p0,Qa f v,44)] wr)) (fun i' j' _ _=>(intOf j'-intOf i').toNat)
 case atStart=>exact⟨0,n,rfl,rfl,Nat.le_refl _,Nat.zero_le _,⟨Nat.zero_le _,by rw[List.length_map,<-HNW.out];exact Nat.le_refl _,fun q g hq=>absurd hq (by omega),fun q g hq hx=>by have:=(List.getElem?_eq_some_iff.1 hx).1;rw[List.length_map,<-HNW.out] at this;omega⟩,H.out⟩
 case round=>
  clear H;obtain⟨lo,hi,rfl,rfl,hhn,hlh,HB,HK⟩:=hrel
  by_cases hlt:lo<hi
  ·have h1:IntKind.i64.wrap ((lo:Int)+(hi:Int))=((lo+hi:Nat):Int):=by rw[IntKind.wrap_i64];omega
   obtain⟨m,hm1,hm2,hm3⟩:∃m:Nat,((lo:Int)+(hi:Int))/2=(m:Int)/\lo<=m/\m<hi:=⟨(lo+hi)/2,by omega,by omega,by omega⟩
   go_upto_region 5 with (fail)
   obtain⟨b,off,g,u,rfl,hb,hx,hm,hr⟩:=(HS.out.below HK.out.bl).at_ (i:=m) (by omega)
   have HRN:=jq hr;have HBN:=jq hb
   have HZ:=jq (show ∀X,Below wr.1.size wr X->(Ji (.pointer (some ⟨b,off+m*21,none⟩))).run Tryz.prog X=.ok (.agg (Qa g u)) X/\(Ji (.pointer (some ⟨p0,0,none⟩))).run Tryz.prog X=.ok (.agg (Qa f v)) X from
    fun X hb=>⟨Qi (Xl HRN.out (hb.mono HK.out.bl.size) HBN.out),Qk ((HK.out.here hb).at_ 0 rfl) (Qe f v)⟩)
   have HBL:=jq (Below.refl wr.1.size wr);have HCM:=jq (fun W hp=>HC.out g u hm.sz.kind W hp);have HX:=jq (show(xs.map (·.1))[m]?=some g by rw[List.getElem?_map,hx];rfl);have i1:(0:Int)<=(m:Int):=by omega
   have i2:(m:Int)<(n:Int):=by omega
   have hw3:IntKind.i64.wrap (m:Int)=(m:Int):=by rw[IntKind.wrap_i64];omega
   clear hr hx hm hb h1 hm1
   by_cases hbf:JD g f
   ·have hz:=(Xi g f).2 hbf;have HBF:=jq hbf;generalize Xy g f=z at*;have hzd:decide (z<0)=true:=decide_eq_true hz;clear hbf
    go_region_held3 (fun X=>(Ji (.pointer (some ⟨b,off+m*21,none⟩))).run Tryz.prog X=.ok (.agg (Qa g u)) X/\(Ji (.pointer (some ⟨p0,0,none⟩))).run Tryz.prog X=.ok (.agg (Qa f v)) X)
     (first|exact HZ.out _ hz2|exact HZ.out _ HBL.out.drew|exact HZ.out _ HBL.out|go_keep)
     (first|(go_at_fn 46;refine(HCM.out _ (HK.out.drew.pw)).mono ?_;rintro e w3 ⟨rfl,hb3⟩;have hz2:Below wr.1.size wr w3:=HBL.out.drew.trans hb3))
    all_goals
     go_wp2_with fail
     go_roundw
     case rel=>exact⟨m+1,hi,by go_num,rfl,hhn,by omega,HB.out.up HSO.out hm3 HX.out HBF.out,HK.out.here hz2⟩
     case measure=>simp[intOf];omega
   ·have hz:=mt (Xi g f).1 hbf;have HBF:=jq hbf;generalize Xy g f=z at*;have hzd:decide (z<0)=false:=decide_eq_false hz;clear hbf
    go_region_held3 (fun X=>(Ji (.pointer (some ⟨b,off+m*21,none⟩))).run Tryz.prog X=.ok (.agg (Qa g u)) X/\(Ji (.pointer (some ⟨p0,0,none⟩))).run Tryz.prog X=.ok (.agg (Qa f v)) X)
     (first|exact HZ.out _ hz2|exact HZ.out _ HBL.out.drew|exact HZ.out _ HBL.out|go_keep)
     (first|(go_at_fn 46;refine(HCM.out _ (HK.out.drew.pw)).mono ?_;rintro e w3 ⟨rfl,hb3⟩;have hz2:Below wr.1.size wr w3:=HBL.out.drew.trans hb3))
    all_goals
     go_wp2_with fail
     go_roundw
     case rel=>exact⟨lo,m,rfl,rfl,by omega,hm2,HB.out.down HSO.out hm2 hm3 HX.out HBF.out,HK.out.here hz2⟩
     case measure=>simp[intOf];omega
  ·obtain rfl:lo=hi:=by omega
   by_cases hln:lo<n
   ·obtain⟨b,off,g,u,rfl,hb,hx,hm,hr⟩:=(HS.out.below HK.out.bl).at_ (i:=lo) hln
    have HRN:=jq hr;have HBN:=jq hb
    have HZ:=jq (show ∀X,Below wr.1.size wr X->(Ji (.pointer (some ⟨b,off+lo*21,none⟩))).run Tryz.prog X=.ok (.agg (Qa g u)) X/\(Ji (.pointer (some ⟨p0,0,none⟩))).run Tryz.prog X=.ok (.agg (Qa f v)) X from
     fun X hb=>⟨Qi (Xl HRN.out (hb.mono HK.out.bl.size) HBN.out),Qk ((HK.out.here hb).at_ 0 rfl) (Qe f v)⟩)
    have HBL:=jq (Below.refl wr.1.size wr);have HCM:=jq (fun W hp=>HC.out g u hm.sz.kind W hp);have i1:(0:Int)<=(lo:Int):=by omega
    have i2:(lo:Int)<(n:Int):=by omega
    generalize Xy g f=z at*;clear hr hx hm hb;go_upto_region 8 with (fail)
    go_region_held3 (fun X=>(Ji (.pointer (some ⟨b,off+lo*21,none⟩))).run Tryz.prog X=.ok (.agg (Qa g u)) X/\(Ji (.pointer (some ⟨p0,0,none⟩))).run Tryz.prog X=.ok (.agg (Qa f v)) X)
     (first|exact HZ.out _ hz2|exact HZ.out _ HBL.out.drew|exact HZ.out _ HBL.out|go_keep)
     (first|(go_at_fn 46;refine(HCM.out _ (HK.out.drew.pw)).mono ?_;rintro e w3 ⟨rfl,hb3⟩;have hz2:Below wr.1.size wr w3:=HBL.out.drew.trans hb3))
    all_goals
     go_wp2_with fail
     first|go_ret2|skip
     exact⟨lo,_,rfl,HB.out,(HK.out.here hz2).bl⟩
   ·have hd:decide ((lo:Int)<(n:Int))=false:=decide_eq_false (by omega);go_upto_region 8 with (fail)
    go_quiet (fail)
    go_wp2_with fail
    first|go_ret2|skip
    exact⟨lo,_,rfl,HB.out,(HK.out.drewN _).bl⟩
end
end Go.Proofs.YtbcnkcldlealjaaGreatDoor
