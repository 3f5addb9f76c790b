/- Vcp, Vbs, Va1, Vsl, Vck, Vun, Vso, Vaf. -/
import Derived.Test.YtmfjmngebldanaaGreatDoorQGVe37
import Derived.Test.YtmfjmngebldanaaGreatDoorQGVe31
set_option maxRecDepth 100000
set_option maxHeartbeats 8000000
namespace Go.Proofs.YtmfjmngebldanaaGreatDoor
open Go.Lib renaming hid→jq
section
open Go.RowKit Go.Shelf
attribute [local go_sem] Oper.semAt_some
attribute [local go_sem ↓] Go.wp_at_zero Go.wp_at_succ Ql Qz ZbW
theorem Zbo(w:World){cs pb:Array Value}(hc:cs.size=17)(hs:pb.size=17)(h1:pb.all (·.oneCell')=true):(stK (.pointer (some ⟨w.1.size,0,none⟩)) (.agg pb)).run Tryz.prog (w.alloc (.cells cs 104))=.ok () (w.alloc (.cells pb 104)):=by
 rw[VC (show BlkB (w.alloc (.cells cs 104)) w.1.size cs 104 from heap_alloc_new w _) hc hs h1,World.setRow_alloc_new]
def Zd6(k:Int):Int:=if(QE k).isSome=true then 0 else 7
theorem Zdw(k:Int)(hk:I64 k)(w:World)(hp:Env w):
 Calls Tryz.prog 59 #[.int .i64 k] w fun e w'=>e=.returned (.tuple #[.int .i64 (Xe k),.int .i64 (Zd6 k)])/\Below w.1.size w w':=by
 have HK:=jq (Zdv w hp);have HI:=jq hk;have HBL:=jq (Below.refl w.1.size w);clear hp hk
 cases hr:QE k with
 |none=>
  have HC:=jq (show Xe k=0 by unfold Xe;rw[hr]);have HE:=jq (show Zd6 k=7 by unfold Zd6;rw[hr];rfl);have HR:=jq hr;generalize Xe k=ck at*;generalize Zd6 k=ce at*;clear hr;go_enter Tryz.func59,Tryz.ntmps59
  go_wp2_with (go_at_call 72;refine HK.out.mono ?_;rintro e w1 ⟨bm,rfl,hR,hb1⟩;obtain⟨kb,hlk,hkk⟩:=hR.look HI.out;rw[HR.out] at hlk;simp only[Option.isSome] at hlk;have hst:=fun cs (hc:cs.size=17)=>Zbo w1 (cs:=cs) hc hkk.size hkk.cell;clear hR hkk)
  go_ret2
  rw[HC.out,HE.out];exact⟨rfl,hb1.alloc hb1.size _⟩
 |some r=>
  have HC:=jq (show Xe k=r.cls by unfold Xe;rw[hr]);have HE:=jq (show Zd6 k=0 by unfold Zd6;rw[hr];rfl);have HR:=jq hr;generalize Xe k=ck at*;generalize Zd6 k=ce at*;clear hr;go_enter Tryz.func59,Tryz.ntmps59
  go_wp2_with (go_at_call 72;refine HK.out.mono ?_;rintro e w1 ⟨bm,rfl,hR,hb1⟩;obtain⟨kb,hlk,hkk⟩:=hR.look HI.out;rw[HR.out] at hlk;simp only[Option.isSome] at hlk;have hst:=fun cs (hc:cs.size=17)=>Zbo w1 (cs:=cs) hc hkk.size hkk.cell;unfold KOk at hkk;rw[HR.out] at hkk;obtain⟨word,mv,rfl,_⟩:=hkk;have hc1:(w1.alloc (.cells (kB word r.cls r.has mv r.code) 104)).cell? ⟨w1.1.size,1,none⟩=some (.int .i64 r.cls):=(cell_of_row _ _ 1 _ _ _ (heap_alloc_new w1 _)).trans rfl;clear hR)
  go_ret2
  rw[HC.out,HE.out];exact⟨rfl,hb1.alloc hb1.size _⟩
theorem VK(f g:Fct)(u v:FaV)(hf:I64 f.kind)(hg:I64 g.kind)(w:World)(hp:Env w):
 Calls Tryz.prog 30 #[.agg (Qb f u),.agg (Qb g v)] w fun e w'=>e=.returned (.int .i64 (QH f g))/\Below w.1.size w w':=by
 have H:=jq (((Kp.start hp).new w.1.size rfl (Qb f u) 43).new (w.1.size+1) (by simp) (Qb g v) 43);have HC1:=jq (fun W (h:Env W)=>Zdw f.kind hf W h);have HC2:=jq (fun W (h:Env W)=>Zdw g.kind hg W h);have HD:=jq (fun W=>ZjM f.day g.day W);have HI:=jq (fun W=>ZjN (Xe f.kind) (Xe g.kind) W);have HS:=jq (fun W=>ZjO f.key g.key W);have HO:=jq (fun W=>ZlL (Xr f.day g.day) (Xr (Xe f.kind) (Xe g.kind)) (JZ f.key g.key) W);rw[show or3 (Xr f.day g.day) (Xr (Xe f.kind) (Xe g.kind)) (JZ f.key g.key)=QH f g from rfl] at HO;have x4:=H.out.c 1 4 rfl (show(Qb f u)[4]?=some (.int .i64 f.kind) from rfl);have X4:=jq (show(Qb g v)[4]?=some (.int .i64 g.kind) from rfl);have Y3:=jq (show(Qb f u)[3]?=some (.int .i64 f.day) from rfl);have Z3:=jq (show(Qb g v)[3]?=some (.int .i64 g.day) from rfl);have Y0:=jq (show(Qb f u)[0]?=some (.string ⟨f.key.toArray⟩) from rfl);have Z0:=jq (show(Qb g v)[0]?=some (.string ⟨g.key.toArray⟩) from rfl);generalize Qb f u=fb at*;generalize Qb g v=gb at*;generalize QH f g=res at*;generalize Xr f.day g.day=d at*;generalize Xr (Xe f.kind) (Xe g.kind)=cc at*;generalize JZ f.key g.key=kk at*;generalize Xe f.kind=cf at*;generalize Xe g.kind=cg at*;generalize Zd6 f.kind=ef at*;generalize Zd6 g.kind=eg at*;clear hp hf hg;go_enter Tryz.func30,Tryz.ntmps30
 go_upto_region 1 with (fail)
 generalize hW:(w.alloc (.cells fb 43)).alloc (.cells gb 43)=W at*;generalize hp1:w.1.size+1=p1 at*;generalize hp0:w.1.size=p0 at*;clear hW;go_upto_region 2 with (go_at_call 59;refine(HC1.out _ H.out.pw).mono ?_;rintro e w1 ⟨rfl,hb1⟩)
 have H1:=jq (H.out.here hb1);clear x4 H hb1;have y4:=H1.out.c 0 4 rfl X4.out;go_upto_region 3 with (go_at_call 59;refine(HC2.out _ H1.out.pw).mono ?_;rintro e w2 ⟨rfl,hb2⟩)
 have H2:=jq (H1.out.here hb2);clear y4 H1 hb2;have HB:=jq (Below.refl w2.1.size w2);have HO2:=jq (show Calls Tryz.prog 60 #[.slice (some ⟨w2.1.size,0,none⟩) 3 3] (w2.alloc (.cells #[.int .i64 d,.int .i64 cc,.int .i64 kk] 3)).drew (fun e w'=>e=.returned (.int .i64 res)/\Below w2.1.size w2.drew w') from HO.out w2.drew)
 have HZ:=jq (show ∀w',Below w2.1.size w2 w'->w'.cell? ⟨p0,3,none⟩=some (.int .i64 f.day)/\w'.cell? ⟨p1,3,none⟩=some (.int .i64 g.day)/\w'.cell? ⟨p0,0,none⟩=some (.string ⟨f.key.toArray⟩)/\w'.cell? ⟨p1,0,none⟩=some (.string ⟨g.key.toArray⟩) from
  fun w' hb=>⟨(H2.out.here hb).c 1 3 rfl Y3.out,(H2.out.here hb).c 0 3 rfl Z3.out,(H2.out.here hb).c 1 0 rfl Y0.out,(H2.out.here hb).c 0 0 rfl Z0.out⟩)
 have HQ:=jq (show ∀w',Below w2.1.size w2 w'->Below w.1.size w w' from fun w' hb=>(H2.out.here hb).bl)
 go_region_held3 (fun X=>X.cell? ⟨p0,3,none⟩=some (.int .i64 f.day)/\X.cell? ⟨p1,3,none⟩=some (.int .i64 g.day)/\X.cell? ⟨p0,0,none⟩=some (.string ⟨f.key.toArray⟩)/\X.cell? ⟨p1,0,none⟩=some (.string ⟨g.key.toArray⟩))
  (first
    |exact HZ.out _ hz
    |exact HZ.out _ HB.out.drew
    |exact HZ.out _ (HB.out.drew.alloc (Nat.le_refl _) _)
    |exact HZ.out _ HB.out
    |go_keep)
  (first
    |(go_at_call 61;refine(HD.out _).mono ?_;rintro e v1 ⟨rfl,rfl⟩)
    |(go_at_call 62;refine(HI.out _).mono ?_;rintro e v2 ⟨rfl,rfl⟩)
    |(go_at_call 63;refine(HS.out _).mono ?_;rintro e v3 ⟨rfl,rfl⟩)
    |(go_at_call 60;refine(HO2.out).mono ?_;rintro e w3 ⟨rfl,hb3⟩;have hz:Below w2.1.size w2 w3:=HB.out.drew.trans hb3))
 all_goals
  go_wp2_with fail
  first|go_ret|skip
  exact⟨rfl,HQ.out _ hz⟩
end
section
open Go.RowKit Go.Shelf
attribute [local go_sem] Oper.semAt_some
attribute [local go_sem ↓] Go.wp_at_zero Go.wp_at_succ Ql Qz
structure BsAt (fs:List Fct) (f:Fct) (lo hi:Nat):Prop where
 le:lo<=hi
 len:hi<=fs.length
 lt:∀q g,q<lo->fs[q]?=some g->bef g f
 ge:∀q g,hi<=q->fs[q]?=some g->¬bef g f
theorem BsAt.up{fs:List Fct}{f g:Fct}{lo hi h:Nat}(b:BsAt fs f lo hi)(hs:Srt fs)(hh:h<hi)(hg:fs[h]?=some g)(hb:bef g f):BsAt fs f (h+1) hi:=by
 refine⟨hh,b.len,fun q x hq hx=> ?_,b.ge⟩
 rcases Nat.lt_or_ge q h with h1|h1
 ·obtain⟨hq1,rfl⟩:=List.getElem?_eq_some_iff.1 hx
  obtain⟨hh1,rfl⟩:=List.getElem?_eq_some_iff.1 hg
  exact XT (List.pairwise_iff_getElem.1 hs q h hq1 hh1 h1) hb
 ·obtain rfl:q=h:=by omega
  rw[hg] at hx;rw[<-Option.some.inj hx];exact hb
theorem BsAt.down{fs:List Fct}{f g:Fct}{lo hi h:Nat}(b:BsAt fs f lo hi)(hs:Srt fs)(hl:lo<=h)(hh:h<hi)(hg:fs[h]?=some g)(hb:¬bef g f):BsAt fs f lo h:=by
 refine⟨hl,by have:=b.len;omega,b.lt,fun q x hq hx hbx=> ?_⟩
 rcases Nat.lt_or_ge h q with h1|h1
 ·obtain⟨hq1,rfl⟩:=List.getElem?_eq_some_iff.1 hx
  obtain⟨hh1,rfl⟩:=List.getElem?_eq_some_iff.1 hg
  exact hb (XT (List.pairwise_iff_getElem.1 hs h q hh1 hq1 h1) hbx)
 ·obtain rfl:q=h:=by omega
  rw[hg] at hx;rw[<-Option.some.inj hx] at hbx;exact hb hbx
theorem Zkr(A:Option Addr)(n c:Nat)(xs:List Fx)(f:Fct)(v:FaV)(w:World)(hp:Env w)(hs:Fxs w w.1.size A n xs)(hn:n<=100000)(hk:I64 f.kind)(hso:Srt (xs.map (·.1))):
 Calls Tryz.prog 50 #[.slice A n c,.agg (Qb f v),.func (.func 30) #[] #[]] w fun e w'=>∃(i:Nat) (b:Bool),e=.returned (.tuple #[.int .i64 (i:Nat),.bool b])/\BsAt (xs.map (·.1)) f i i/\Below w.1.size w w':=by
 have HS:=jq hs;have HNW:=jq hs.len;have H:=jq ((Kp.start hp).new w.1.size rfl (Qb f v) 43);have HSO:=jq hso;have HC:=jq (fun(g:Fct) (u:FaV) (hg:I64 g.kind) W (hp:Env W)=>VK g f u v hg hk W hp);have eg:∀args w,(callFunc 30 args).run Tryz.prog w=.ok (.enter 30 args) w:=enters_of Tryz.func30 (by kernel_rfl) rfl;clear hs hp hso hk;go_enter Tryz.func50,Tryz.ntmps50
 go_wp2_with fail
 generalize w.alloc (.cells (Qb f v) 43)=W0 at*;obtain⟨p0,hp0⟩:∃p0,w.1.size=p0:=⟨_,rfl⟩
 have HP0:=jq hp0;rw[hp0] at H ⊢;clear hp0
 go_loopw [9,10,11] (fun i' j' _ wr=>∃(lo hi:Nat),i'=.int .i64 lo/\j'=.int .i64 hi/\hi<=n/\lo<=hi/\Hid (BsAt (xs.map (·.1)) f lo hi)/\Hid (Kp w [(p0,Qb f v,43)] wr)) (fun i' j' _ _=>(intOf j'-intOf i').toNat)
 case atStart=>exact⟨0,n,rfl,rfl,Nat.le_refl _,Nat.zero_le _,⟨Nat.zero_le _,by rw[List.length_map,<-HNW.out];exact Nat.le_refl _,fun q g hq=>absurd hq (by omega),fun q g hq hx=>by have:=(List.getElem?_eq_some_iff.1 hx).1;rw[List.length_map,<-HNW.out] at this;omega⟩,H.out⟩
 case round=>
  clear H;obtain⟨lo,hi,rfl,rfl,hhn,hlh,HB,HK⟩:=hrel
  by_cases hlt:lo<hi
  ·have h1:IntKind.i64.wrap ((lo:Int)+(hi:Int))=((lo+hi:Nat):Int):=by rw[IntKind.wrap_i64];omega
   obtain⟨m,hm1,hm2,hm3⟩:∃m:Nat,((lo:Int)+(hi:Int))/2=(m:Int)/\lo<=m/\m<hi:=⟨(lo+hi)/2,by omega,by omega,by omega⟩
   go_upto_region 5 with (fail)
   obtain⟨b,off,g,u,rfl,hb,hx,hm,hr⟩:=(HS.out.below HK.out.bl).at_ (i:=m) (by omega)
   have HRN:=jq hr;have HBN:=jq hb
   have HZ:=jq (show ∀X,Below wr.1.size wr X->(Vj (.pointer (some ⟨b,off+m*21,none⟩))).run Tryz.prog X=.ok (.agg (Qb g u)) X/\(Vj (.pointer (some ⟨p0,0,none⟩))).run Tryz.prog X=.ok (.agg (Qb f v)) X from
    fun X hb=>⟨Qi (Qu HRN.out (hb.mono HK.out.bl.size) HBN.out),Qj ((HK.out.here hb).at_ 0 rfl) (Qg f v)⟩)
   have HBL:=jq (Below.refl wr.1.size wr);have HCM:=jq (fun W hp=>HC.out g u hm.sz.kind W hp);have HX:=jq (show(xs.map (·.1))[m]?=some g by rw[List.getElem?_map,hx];rfl);have i1:(0:Int)<=(m:Int):=by omega
   have i2:(m:Int)<(n:Int):=by omega
   have hw3:IntKind.i64.wrap (m:Int)=(m:Int):=by rw[IntKind.wrap_i64];omega
   clear hr hx hm hb h1 hm1
   by_cases hbf:bef g f
   ·have hz:=(QY g f).2 hbf;have HBF:=jq hbf;generalize QH g f=z at*;have hzd:decide (z<0)=true:=decide_eq_true hz;clear hbf
    go_region_held3 (fun X=>(Vj (.pointer (some ⟨b,off+m*21,none⟩))).run Tryz.prog X=.ok (.agg (Qb g u)) X/\(Vj (.pointer (some ⟨p0,0,none⟩))).run Tryz.prog X=.ok (.agg (Qb f v)) X)
     (first|exact HZ.out _ hz2|exact HZ.out _ HBL.out.drew|exact HZ.out _ HBL.out|go_keep)
     (first|(go_at_fn 30;refine(HCM.out _ (HK.out.drew.pw)).mono ?_;rintro e w3 ⟨rfl,hb3⟩;have hz2:Below wr.1.size wr w3:=HBL.out.drew.trans hb3))
    all_goals
     go_wp2_with fail
     go_roundw
     case rel=>exact⟨m+1,hi,by go_num,rfl,hhn,by omega,HB.out.up HSO.out hm3 HX.out HBF.out,HK.out.here hz2⟩
     case measure=>simp[intOf];omega
   ·have hz:=mt (QY g f).1 hbf;have HBF:=jq hbf;generalize QH g f=z at*;have hzd:decide (z<0)=false:=decide_eq_false hz;clear hbf
    go_region_held3 (fun X=>(Vj (.pointer (some ⟨b,off+m*21,none⟩))).run Tryz.prog X=.ok (.agg (Qb g u)) X/\(Vj (.pointer (some ⟨p0,0,none⟩))).run Tryz.prog X=.ok (.agg (Qb f v)) X)
     (first|exact HZ.out _ hz2|exact HZ.out _ HBL.out.drew|exact HZ.out _ HBL.out|go_keep)
     (first|(go_at_fn 30;refine(HCM.out _ (HK.out.drew.pw)).mono ?_;rintro e w3 ⟨rfl,hb3⟩;have hz2:Below wr.1.size wr w3:=HBL.out.drew.trans hb3))
    all_goals
     go_wp2_with fail
     go_roundw
     case rel=>exact⟨lo,m,rfl,rfl,by omega,hm2,HB.out.down HSO.out hm2 hm3 HX.out HBF.out,HK.out.here hz2⟩
     case measure=>simp[intOf];omega
  ·obtain rfl:lo=hi:=by omega
   by_cases hln:lo<n
   ·obtain⟨b,off,g,u,rfl,hb,hx,hm,hr⟩:=(HS.out.below HK.out.bl).at_ (i:=lo) hln
    have HRN:=jq hr;have HBN:=jq hb
    have HZ:=jq (show ∀X,Below wr.1.size wr X->(Vj (.pointer (some ⟨b,off+lo*21,none⟩))).run Tryz.prog X=.ok (.agg (Qb g u)) X/\(Vj (.pointer (some ⟨p0,0,none⟩))).run Tryz.prog X=.ok (.agg (Qb f v)) X from
     fun X hb=>⟨Qi (Qu HRN.out (hb.mono HK.out.bl.size) HBN.out),Qj ((HK.out.here hb).at_ 0 rfl) (Qg f v)⟩)
    have HBL:=jq (Below.refl wr.1.size wr);have HCM:=jq (fun W hp=>HC.out g u hm.sz.kind W hp);have i1:(0:Int)<=(lo:Int):=by omega
    have i2:(lo:Int)<(n:Int):=by omega
    generalize QH g f=z at*;clear hr hx hm hb;go_upto_region 8 with (fail)
    go_region_held3 (fun X=>(Vj (.pointer (some ⟨b,off+lo*21,none⟩))).run Tryz.prog X=.ok (.agg (Qb g u)) X/\(Vj (.pointer (some ⟨p0,0,none⟩))).run Tryz.prog X=.ok (.agg (Qb f v)) X)
     (first|exact HZ.out _ hz2|exact HZ.out _ HBL.out.drew|exact HZ.out _ HBL.out|go_keep)
     (first|(go_at_fn 30;refine(HCM.out _ (HK.out.drew.pw)).mono ?_;rintro e w3 ⟨rfl,hb3⟩;have hz2:Below wr.1.size wr w3:=HBL.out.drew.trans hb3))
    all_goals
     go_wp2_with fail
     first|go_ret2|skip
     exact⟨lo,_,rfl,HB.out,(HK.out.here hz2).bl⟩
   ·have hd:decide ((lo:Int)<(n:Int))=false:=decide_eq_false (by omega);go_upto_region 8 with (fail)
    go_quiet (fail)
    go_wp2_with fail
    first|go_ret2|skip
    exact⟨lo,_,rfl,HB.out,(HK.out.drewN _).bl⟩
end
section
open Go.RowKit Go.Shelf
attribute [local go_sem] Oper.semAt_some
attribute [local go_sem ↓] Ql Qz
theorem Zd7(x:Fct)(u:FaV)(f:Fct)(v:FaV)(bf:Nat)(W:World)(hb:BlkB W bf (Qb f v) 43):
 Calls Tryz.prog 49 (#[.agg (Qb x u)]++#[.pointer (some ⟨bf,0,none⟩)]) W fun e w'=>e=.returned (.bool (x.key==f.key))/\Below W.1.size W w':=by
 have HBL:=jq ((Below.refl W.1.size W).alloc (Nat.le_refl _) (.cells (Qb x u) 43));have c0:(W.alloc (.cells (Qb x u) 43)).cell? ⟨W.1.size,0,none⟩=some (.string ⟨x.key.toArray⟩):=(cell_of_row _ _ 0 _ _ _ (heap_alloc_new W _)).trans rfl;have ck:=(hb.alloc (.cells (Qb x u) 43)).cell 0 (show(Qb f v)[0]?=some (.string ⟨f.key.toArray⟩) from rfl);generalize Qb x u=xb at*;clear hb
 show Calls _ _ #[.agg xb,.pointer (some ⟨bf,0,none⟩)] _ _
 cases hk:(x.key==f.key)
 all_goals
  go_enter Tryz.func49,Tryz.ntmps49
  go_wp2_with fail
  first|go_ret|skip
  exact⟨rfl,HBL.out⟩
theorem Zid(g0:Nat)(cb:Array Value)(w:World)(eg:∀args w,(callFunc g0 args).run Tryz.prog w=.ok (.enter g0 args) w):
 Calls Tryz.prog 47 #[.slice none 0 0,.func (.func g0) #[] cb] w fun e w'=>e=.returned (.slice none 0 0)/\Below w.1.size w w':=by
 have HIX:=jq (Jh g0 cb (fun _=>false) none 0 0 [] w eg (fun W f v hx=>by cases hx) Fxs.nil (by omega));rw[show Zam (fun _=>false) ([]:List Fx)= -1 from rfl] at HIX;go_enter Tryz.func47,Tryz.ntmps47
 go_wp2_with (go_at_call 43;refine(HIX.out).mono ?_;rintro e w' ⟨rfl,hb'⟩)
 first|go_ret|skip
 exact⟨rfl,hb'⟩
theorem Zie(f:Fct)(v:FaV)(bf:Nat)(A:Option Addr)(n c base:Nat)(xs:List Fx)(w:World)(ho:Own QF 21 43 w base (.slice A n c) xs)(hm:∀x∈xs,FxM w w.1.size x)(hb:BlkB w bf (Qb f v) 43)(hne:(Value.slice A n c).ownBlock≠some bf)(hn:n<=1000000):
 Calls Tryz.prog 47 #[.slice A n c,.func (.func 49) #[] #[.pointer (some ⟨bf,0,none⟩)]] w fun e w'=>∃zs:List Fx,e=.returned (.slice A zs.length c)/\zs=xs.filter (fun x=> !(x.1.key==f.key))/\Own QF 21 43 w' base (.slice A zs.length c) zs/\w.grownBy w' (Value.slice A n c).ownBlock:=by
 have eg:∀args w,(callFunc 49 args).run Tryz.prog w=.ok (.enter 49 args) w:=enters_of Tryz.func49 (by kernel_rfl) rfl;obtain⟨hnx,_,_,⟨rfl,rfl,rfl⟩|⟨g,rfl,hg1,hg2⟩⟩:=ho.facts
 ·obtain rfl:n=0:=hnx;refine(Zid _ _ w eg).mono ?_;rintro e w' ⟨he,hb'⟩;exact⟨[],he,rfl,ho.below hb',Jj hb' _⟩
 ·exact ZhY 49 _ (fun x=>x.1.key==f.key) g n c base xs w eg (fun W x u _ _ hW=>Zd7 x u f v bf W ((hW bf hb.lt (fun e=>hne (by rw[e];rfl))).trans hb)) ho hm hn
theorem Ze9(A:Option Addr)(n c:Nat)(xs:List Fx)(w:World)(hnil:A=none->c=0)(hcap:n<=c)(hs:Sl QF 21 w w.1.size A n xs)(hn:n<=1000000):Calls Tryz.prog 48 #[.slice A n c] w (RetOwn QF 21 43 w.1.size w xs):=by
 cases A with
 |none=>
  have hc:=hnil rfl;subst hc;obtain rfl:n=0:=by omega
  have hx:xs=[]:=List.eq_nil_of_length_eq_zero hs.1.symm;subst hx;exact ZeY w
 |some a=>exact ZeX a n c xs w hs hn
theorem Zif(A:Option Addr)(n c i vb base:Nat)(xs:List Fx)(f:Fct)(v:FaV)(w:World)(ho:Own QF 21 43 w base (.slice A n c) xs)(hv:BlkB w vb (Qb f v) 43)(hne:(Value.slice A n c).ownBlock≠some vb)(hi:i<=n)(hn:n<=1000000)(hbs:base<=w.1.size):
 Calls Tryz.prog 51 #[.slice A n c,.int .i64 i,.slice (some ⟨vb,0,none⟩) 1 1] w (Vi base w (n+1) (xs.take i++(f,v)::xs.drop i)):=by
 obtain⟨hnx,hxc,hcm,hA⟩:=ho.facts
 by_cases hin:i=n
 ·subst hin;have h:=ZjT A i c vb base xs (f,v) w ho (Za0 hv) hn hbs;rw[List.take_of_length_le (by omega),List.drop_eq_nil_of_le (by omega)];exact h
 ·rcases hA with ⟨rfl,rfl,rfl⟩|⟨g,rfl,hg1,hg2⟩
  ·exfalso;simp at hnx;omega
  ·by_cases hr:n+1<=c
   ·exact Zh0 g n c i vb base xs (f,v) w ho hv (fun e=>hne (by rw[e];rfl)) (by omega) hr hn hbs
   ·exact Zh1 g n c i vb base xs (f,v) w ho hv (by omega) (by omega) hn hbs
theorem Zhl{f:Fct}:∀{fs:List Fct} {i:Nat},(∀g∈fs,g.key≠f.key)->BsAt fs f i i->Vr f fs=fs.take i++f::fs.drop i
 |[],i,_,_=>by simp[Vr]
 |g::fs,0,hk,h=>by
  have h1:=h.ge 0 g (Nat.le_refl _) rfl;have h2:bef f g:=(ZbJ (hk g (List.mem_cons_self ..))).resolve_left h1;unfold Vr;rw[if_pos ((QY f g).2 h2)];rfl
 |g::fs,i+1,hk,h=>by
  have h1:=h.lt 0 g (by omega) rfl;have h2:¬bef f g:=fun h3=>ZbI f (XT h3 h1)
  unfold Vr;rw[if_neg (mt (QY f g).1 h2)];rw[Zhl (fun g hg=>hk g (List.mem_cons_of_mem _ hg)) (show BsAt fs f i i from⟨Nat.le_refl _,by have:=h.len;simp at this;omega,fun q x hq hx=>h.lt (q+1) x (by omega) (by simpa using hx),fun q x hq hx=>h.ge (q+1) x (by omega) (by simpa using hx)⟩)];rfl
end
section
open Go.RowKit Go.Shelf
attribute [local go_sem] Oper.semAt_some
attribute [local go_sem ↓] Ql Qz
theorem Kp.low{w W W':World}{bs:List (Nat×Array Value×TypeId)}{B:Nat}(h:Kp w bs W)(hb:Below B W W')(hB:w.1.size<=B)(hlt:∀b∈bs,b.1<B):Kp w bs W':=
 ⟨h.pow,h.bl.trans (hb.mono hB),h.own,h.ord,fun b hm=>(hb.block b.1 (hlt b hm)).trans (h.blk b hm)⟩
def slF(x v:Value):Sem Value:=Instr.sliceAt 22 x (some v) none none
theorem Zco(x v:Value):Instr.sliceAt 22 x (some v) none none=slF x v:=rfl
def Zm9(A:Option Addr)(c k:Nat):Option Addr:=if c=k then A else A.map (·.add (k*21))
theorem Zl2(w:World)(A:Option Addr)(n c k:Nat)(hk:k<=n):(slF (.slice A n c) (.int .i64 (k:Int))).run Tryz.prog w=.ok (.slice (Zm9 A c k) (n-k) (c-k)) w:=by
 have hel:Tryz.prog.elem 22=43:=by kernel_rfl
 have hu:Tryz.prog.underlying 22=some (.slice (Tryz.prog.elem 22)):=by rw[hel];exact Tryz.underlying22
 have hsz:((sizeOf (Tryz.prog.elem 22)).run Tryz.prog w)=.ok 21 w:=by
  obtain⟨i0,z0,hu0,hi0,hz0,hs0,_⟩:=QO
  rw[hel];simp[sizeOf,typeInfo,hi0,hs0]
 unfold slF;rw[run_sliceAt_slice (h:=hu),run_slice_l (ht:=hu) (h0:=by omega) (h1:=by omega),hsz];simp only[Result.andThen_ok,sliced,Int.toNat_natCast];rfl
theorem Fxs.cut{w:World}{B n c k:Nat}{A:Option Addr}{xs:List Fx}(h:Fxs w B A n xs)(hk:k<=n)(hc:n<=c):Fxs w B (Zm9 A c k) (n-k) (xs.drop k):=by
 have hl:=h.len;refine⟨⟨by rw[List.length_drop,<-hl],fun h0=> ?_⟩,fun x hx=>h.all x (List.mem_of_mem_drop hx)⟩;obtain⟨b,off,rfl,_⟩:=h.sl.2 (by omega)
 unfold Zm9;rw[if_neg (by omega)];have h2:=(h.sl.drop hk).2 h0;rw[Option.map_some,Addr.add_lit];exact h2
end
section
open Go.RowKit Go.Shelf
attribute [local go_sem] Oper.semAt_some
attribute [local go_sem ↓] Go.wp_at_zero Go.wp_at_succ Ql Qz
theorem Ya{xs:List Fx}{k:Nat}{f:Fct}{v:FaV}(h:xs[k]?=some (f,v)):(xs.map (·.1)).take (k+1)=(xs.map (·.1)).take k++[f]:=by
 obtain⟨hk,e⟩:=List.getElem?_eq_some_iff.1 h
 rw[List.take_succ_eq_append_getElem (by simpa using hk),List.getElem_map,e]
theorem Zho{xs:List Fx}{k:Nat}{f:Fct}{v:FaV}(h:xs[k]?=some (f,v)):((xs.map (·.1)).take (k+1)).getLast?=some f:=by rw[Ya h,List.getLast?_append];rfl
theorem Zfg{pre:List Fct}{f:Fct}{seen:List (List UInt8)}(h:∀s,decide (s∈seen)=pre.any fun g=>g.key==s):∀s,decide (s∈f.key::seen)=(pre++[f]).any fun g=>g.key==s:=by
 intro s;have h1:=h s;rw[List.any_append,List.any_cons,List.any_nil,Bool.or_false,<-h1]
 by_cases e:f.key=s
 ·subst e;rw[beq_self_eq_true,Bool.or_true];exact decide_eq_true (List.mem_cons_self ..)
 ·rw[beq_false_of_ne e,Bool.or_false];have h2:(s∈f.key::seen)↔s∈seen:=by rw[List.mem_cons];exact⟨fun h=>h.elim (fun h=>absurd h.symm e) id,.inr⟩
  simp only[h2]
theorem XA(A:Option Addr)(n c:Nat)(xs:List Fx)(w:World)(hp:Env w)(hs:Fxs w w.1.size A n xs)(hn:n<=1000000000):
 Calls Tryz.prog 24 #[.slice A n c] w fun e w'=>e=.returned (.int .i64 (Xh (xs.map (·.1))))/\Below w.1.size w w':=by
 have hsc:Xh (xs.map (·.1))=if 1000<(xs.map (·.1)).length then 4 else Zay [] (xs.map (·.1)):=rfl
 rw[List.length_map,<-hs.len] at hsc;have HSC:=jq hsc;generalize Xh (xs.map (·.1))=res at*;have HS:=jq hs;have HNW:=jq hs.len;have H:=jq (Kp.start hp);clear hs hp hsc
 by_cases h1:1000<n
 ·have hq:=HSC.out;rw[if_pos h1] at hq;have HQ:=jq hq;clear hq hn;go_enter Tryz.func24,Tryz.ntmps24
  go_wp2_with fail
  first|go_ret|skip
  exact⟨Qa HQ.out.symm,H.out.bl⟩
 have hq:=HSC.out;rw[if_neg h1] at hq;have HQ:=jq hq;clear hq HSC;have hmm:= @run_makeMap Tryz.prog;have HM:=jq (Zdh w);have H1:=jq (H.out.alloc (.map #[] 0));clear H;go_enter Tryz.func24,Tryz.ntmps24
 go_wp2_with fail
 generalize hW:w.alloc (.map #[] 0)=W at*;obtain⟨p,hpw⟩:∃p,w.1.size=p:=⟨_,rfl⟩
 rw[hpw] at HM ⊢;have HP:=jq hpw;clear hpw hW
 go_loopw [2,4,5,6,13] (fun r _ _ _ i wr=>∃(k:Nat) (seen:List (List UInt8)),k<=n/\r=.int .i64 0/\i=.int .i64 k/\Hid (Kp w [] wr)/\Hid (SeenB wr p k seen)/\Hid (∀s,decide (s∈seen)=((xs.map (·.1)).take k).any fun g=>g.key==s)/\Hid (Zay ((xs.map (·.1)).take k) ((xs.map (·.1)).drop k)=res)) (fun _ _ _ _ i _=>n-(intOf i).toNat)
 case atStart=>exact⟨0,[],Nat.zero_le _,rfl,rfl,H1,HM,(show ∀s:List UInt8,decide (s∈([]:List (List UInt8)))=_ by intro s;simp),by show _=_;rw[List.drop_zero,List.take_zero];exact HQ.out.symm⟩
 case round=>
  clear H1 HM HQ;obtain⟨k,seen,hk,rfl,rfl,H,HM,HA,HQ⟩:=hrel
  by_cases hlt:k<n
  ·obtain⟨b,off,f,v,rfl,hb,hx,hm,hr⟩:=(HS.out.below H.out.bl).at_ hlt
   have hld:=Qi hr;have hst:=fun cs (hc:cs.size=21)=>QB wr f v (cs:=cs) hc
   have HX:=jq hx;have HFM:=jq ((hm.more H.out.bl.size).here ((Below.refl _ wr).alloc (Nat.le_refl _) (.cells (Qb f v) 43)));have HB:=jq (H.out.new wr.1.size rfl (Qb f v) 43);have HM2:=jq (HM.out.alloc (.cells (Qb f v) 43))
   have HLC:=jq (show res=if Qt f≠0 then Qt f else if f.cancelled=true then 19 else if f.stamp≠0 then 1 else if(((xs.map (·.1)).take k).any fun g=>g.key==f.key)=true then 5
    else if Zbj ((xs.map (·.1)).take k).getLast? f=true then 8 else Zay ((xs.map (·.1)).take k++[f]) ((xs.map (·.1)).drop (k+1)) by
     have h:=HQ.out;rw[ZbO hx] at h;exact h.symm)
   clear hx hr hb hm HQ HM;go_upto_region 7 with (fail)
   generalize wr.alloc (.cells (Qb f v) 43)=W1 at*;clear hld hst;generalize hbb:wr.1.size=b1 at*;clear hbb H;have hl1:=Qj (HB.out.at_ 0 rfl) (Qg f v);have HC:=jq (Zea HB.out.pw HFM.out);go_wp2_with fail
   refine HC.out.mono ?_;rintro e W2 ⟨rfl,hb2⟩;replace HB:=jq (HB.out.here hb2);replace HM2:=jq (HM2.out.here hb2);replace HFM:=jq (HFM.out.here hb2);clear hl1 hb2 HC;have c0:=HB.out.c 0 0 rfl (show(Qb f v)[0]?=some (.string ⟨f.key.toArray⟩) from rfl);have c1:=HB.out.c 0 1 rfl (show(Qb f v)[1]?=some (.int .i64 f.stamp) from rfl);have c2:=HB.out.c 0 2 rfl (show(Qb f v)[2]?=some (.bool f.cancelled) from rfl);have hlk:=HM2.out.look (t:=79) Tryz.underlying79 (s:=f.key) (by have:=HFM.out.sz.key;unfold maxLen;simp only at this;omega);rw[HA.out f.key] at hlk;have HKL:=jq (show f.key.length<=maxLen by have:=HFM.out.sz.key;unfold maxLen;simp only at this;omega);generalize Qt f=z at*
   by_cases hz:z=0
   case neg=>
    have hz0:(z !=0)=true:=by simp[hz]
    have hq:=HLC.out;rw[if_pos hz] at hq;have HQ2:=jq hq;clear hz hq HLC;go_wp2_with fail
    first|go_ret|skip
    exact⟨Qa HQ2.out.symm,HB.out.bl⟩
   have hz0:(z !=0)=false:=by simp[hz]
   have hq:=HLC.out;rw[if_neg (by simpa using hz)] at hq;clear HLC hz
   cases hcn:f.cancelled with
   |true=>
    rw[if_pos hcn] at hq;rw[hcn] at c2;have HQ2:=jq hq;clear hq hcn;go_wp2_with fail
    first|go_ret|skip
    exact⟨Qa HQ2.out.symm,HB.out.bl⟩
   |false=>
   rw[if_neg (by rw[hcn];decide)] at hq;rw[hcn] at c2;clear hcn
   by_cases hs:f.stamp=0
   case neg=>
    rw[if_pos hs] at hq;have HQ2:=jq hq;have hs0:(f.stamp !=0)=true:=by simp[hs]
    clear hq hs;go_wp2_with fail
    first|go_ret|skip
    exact⟨Qa HQ2.out.symm,HB.out.bl⟩
   rw[if_neg (by simpa using hs)] at hq;rw[hs] at c1;clear hs
   cases hin:((xs.map (·.1)).take k).any (fun g=>g.key==f.key) with
   |true=>
    rw[if_pos hin] at hq;rw[hin] at hlk;have HQ2:=jq hq;clear hq hin;go_wp2_with fail
    first|go_ret|skip
    exact⟨Qa HQ2.out.symm,HB.out.bl⟩
   |false=>
   rw[if_neg (by rw[hin];decide)] at hq;rw[hin] at hlk;clear hin
   cases k with
   |zero=>
    have HQ2:=jq (show res=Zay ((xs.map (·.1)).take (0+1)) ((xs.map (·.1)).drop (0+1)) by rw[Ya HX.out,hq];rfl);have HA2:=jq (Zfg (f:=f) HA.out);rw[<-Ya HX.out] at HA2;have HC0:=jq (fun q=>(HB.out.drewN q).c 0 0 rfl (show(Qb f v)[0]?=some (.string ⟨f.key.toArray⟩) from rfl));have HI:=jq (show 0<maxLen by unfold maxLen;omega);clear hq;go_upto_region 16 with (fail)
    go_quiet (fail)
    rename_i nq
    have c0':=HC0.out nq;obtain⟨W3,hput,HM3,hg⟩:=(HM2.out.here (JI (Below.refl _ W2) nq)).put (t:=79) Tryz.underlying79 HI.out (s:=f.key) HKL.out
    have HK3:=jq ((HB.out.drewN nq).bare.turn hg (by have:=HP.out;omega));have HM4:=jq HM3;clear HM3 hg;go_wp2_with fail
    go_roundw
    case rel=>exact⟨1,f.key::seen,by omega,rfl,rfl,HK3,HM4,HA2.out,HQ2.out.symm⟩
    case measure=>simp[intOf];omega
   |succ j=>
    obtain⟨b',off',g,u,hA,hb',hx',hm',hr'⟩:=(HS.out.below HB.out.bl).at_ (i:=j) (by omega)
    injection hA with hA;injection hA with hA1 hA2;subst hA1;subst hA2
    rw[Zho hx',show Zbj (some g) f=decide (0<=QH g f) from rfl] at hq;have HRN:=jq hr';have HBN:=jq hb'
    have HZ:=jq (show ∀X,Below W2.1.size W2 X->(Vj (.pointer (some ⟨b,off+j*21,none⟩))).run Tryz.prog X=.ok (.agg (Qb g u)) X/\(Vj (.pointer (some ⟨b1,0,none⟩))).run Tryz.prog X=.ok (.agg (Qb f v)) X from
     fun X hb=>⟨Qi (Qu HRN.out (hb.mono HB.out.bl.size) HBN.out),Qj ((HB.out.here hb).at_ 0 rfl) (Qg f v)⟩)
    have HBL:=jq (Below.refl W2.1.size W2);have HCM:=jq (fun W (hp:Env W)=>VK g f u v hm'.sz.kind HFM.out.sz.kind W hp);have HPW:=jq (fun W (hb:Below W2.1.size W2 W)=>(HB.out.here hb).pw);have HBN2:=jq (fun W (hb:Below W2.1.size W2 W)=>HB.out.here hb);have HMN:=jq (fun W (hb:Below W2.1.size W2 W)=>HM2.out.here hb);have HCL:=jq (fun W (hb:Below W2.1.size W2 W)=>(HB.out.here hb).c 0 0 rfl (show(Qb f v)[0]?=some (.string ⟨f.key.toArray⟩) from rfl));generalize QH g f=cz at*;have i1:(0:Int)<=(j:Int):=by omega
    have i2:(j:Int)<(n:Int):=by omega
    have i3:(0:Int)<(j:Int)+1:=by omega
    have hw1:IntKind.i64.wrap (((j+1:Nat):Int)-1)=(j:Int):=by simp[IntKind.wrap,IntKind.bits,IntKind.signed];omega
    have hw2:IntKind.i64.wrap ((j:Int)+1-1)=(j:Int):=by simp[IntKind.wrap,IntKind.bits,IntKind.signed];omega
    have hw3:IntKind.i64.wrap (j:Int)=(j:Int):=by simp[IntKind.wrap,IntKind.bits,IntKind.signed];omega
    clear hr' hx' hm' hb' HB
    by_cases hc:0<=cz
    ·rw[if_pos (by simpa using hc)] at hq;have HQ2:=jq hq;clear hq;go_upto_region 16 with (fail)
     go_region_held3 (fun X=>(Vj (.pointer (some ⟨b,off+j*21,none⟩))).run Tryz.prog X=.ok (.agg (Qb g u)) X/\(Vj (.pointer (some ⟨b1,0,none⟩))).run Tryz.prog X=.ok (.agg (Qb f v)) X)
      (first|exact HZ.out _ hz2|exact HZ.out _ HBL.out.drew|exact HZ.out _ HBL.out|go_keep)
      (first|(go_at_call 30;refine(HCM.out _ (HPW.out _ HBL.out.drew)).mono ?_;rintro e w3 ⟨rfl,hb3⟩;have hz2:Below W2.1.size W2 w3:=HBL.out.drew.trans hb3))
     all_goals
      go_wp2_with fail
      first|go_ret|skip
      exact⟨Qa HQ2.out.symm,(HBN2.out _ hz2).bl⟩
    ·rw[if_neg (by simpa using hc)] at hq;have HQ2:=jq (show res=Zay ((xs.map (·.1)).take (j+1+1)) ((xs.map (·.1)).drop (j+1+1)) by rw[Ya HX.out,hq]);have HA2:=jq (Zfg (f:=f) HA.out);rw[<-Ya HX.out] at HA2;have HI:=jq (show j+1<maxLen by unfold maxLen;omega);clear hq;go_upto_region 16 with (fail)
     go_region_held3 (fun X=>(Vj (.pointer (some ⟨b,off+j*21,none⟩))).run Tryz.prog X=.ok (.agg (Qb g u)) X/\(Vj (.pointer (some ⟨b1,0,none⟩))).run Tryz.prog X=.ok (.agg (Qb f v)) X)
      (first|exact HZ.out _ hz2|exact HZ.out _ HBL.out.drew|exact HZ.out _ HBL.out|go_keep)
      (first|(go_at_call 30;refine(HCM.out _ (HPW.out _ HBL.out.drew)).mono ?_;rintro e w3 ⟨rfl,hb3⟩;have hz2:Below W2.1.size W2 w3:=HBL.out.drew.trans hb3))
     all_goals
      have c0':=HCL.out _ hz2;obtain⟨W3,hput,HM3,hg⟩:=(HMN.out _ hz2).put (t:=79) Tryz.underlying79 HI.out (s:=f.key) HKL.out
      have HK3:=jq ((HBN2.out _ hz2).bare.turn hg (by have:=HP.out;omega));have HM4:=jq HM3;clear HM3 hg;go_wp2_with fail
      go_roundw
      case rel=>exact⟨j+1+1,f.key::seen,by omega,rfl,by go_num,HK3,HM4,HA2.out,HQ2.out.symm⟩
      case measure=>simp[intOf];omega
  ·have HE:=jq (show res=0 by
    have:=HQ.out
    rw[List.drop_eq_nil_of_le (by rw[List.length_map];have:=HNW.out;omega)] at this;exact this.symm)
   go_wp2_with fail
   first|go_ret|skip
   exact⟨Qa HE.out.symm,H.out.bl⟩
end
section
open Go.RowKit Go.Shelf
attribute [local go_sem] Oper.semAt_some
attribute [local go_sem ↓] Ql Qz YP
theorem Zcv{p:Fct->Bool}{xs:List Fx}{k:Nat}{f:Fct}{v:FaV}(h:xs[k]?=some (f,v))(hp:p f=true):((xs.map (·.1)).take (k+1)).filter p=((xs.map (·.1)).take k).filter p++[f]:=by
 rw[Ya h,List.filter_append,List.filter_cons_of_pos hp];rfl
theorem Zcw{p:Fct->Bool}{xs:List Fx}{k:Nat}{f:Fct}{v:FaV}(h:xs[k]?=some (f,v))(hp:p f=false):((xs.map (·.1)).take (k+1)).filter p=((xs.map (·.1)).take k).filter p:=by
 rw[Ya h,List.filter_append,List.filter_cons_of_neg (by rw[hp];decide),List.filter_nil,List.append_nil]
theorem Zfh(A:Option Addr)(n c:Nat)(xs:List Fx)(d:Int)(w:World)(hp:Env w)(hs:Fxs w w.1.size A n xs)(hn:n<=100000):
 Calls Tryz.prog 20 #[.slice A n c,.int .i64 d] w (FsPost (Yx (xs.map (·.1)) d).1 (Yx (xs.map (·.1)) d).2 w):=by
 have HCK:=jq (XA A n c xs w hp hs (by omega));have hof:Yx (xs.map (·.1)) d=if Xh (xs.map (·.1))≠0 then([],1) else if d< -25567\/84005<d then([],13) else((xs.map (·.1)).filter (fun f=>decide (f.day<=d)),0):=rfl
 generalize Xh (xs.map (·.1))=lc at*;generalize Yx (xs.map (·.1)) d=res at*;generalize hpo:FsPost res.1 res.2 w=post;have HPO:=jq hpo;clear hpo;have HNW:=jq hs.len;have HS:=jq hs;have H:=jq (Kp.start hp);clear hs hp
 by_cases h0:lc=0
 case neg=>
  rw[if_pos h0] at hof;have HRS:=jq hof;have hz:(lc !=0)=true:=by simp[h0]
  clear hof h0;go_enter Tryz.func20,Tryz.ntmps20
  go_wp2_with (go_at_call 24;refine HCK.out.mono ?_;rintro e w1 ⟨rfl,hb1⟩)
  first|go_ret2|skip
  rw[<-HPO.out,HRS.out];exact FsPost.empty hb1
 rw[if_neg (by simpa using h0)] at hof;subst h0
 by_cases hk0:d< -25567
 ·rw[if_pos (.inl hk0)] at hof;have HRS:=jq hof;clear hof;go_enter Tryz.func20,Tryz.ntmps20
  go_wp2_with (go_at_call 24;refine HCK.out.mono ?_;rintro e w1 ⟨rfl,hb1⟩)
  first|go_ret2|skip
  rw[<-HPO.out,HRS.out];exact FsPost.empty hb1
 by_cases hk1:84005<d
 ·rw[if_pos (.inr hk1)] at hof;have HRS:=jq hof;clear hof;go_enter Tryz.func20,Tryz.ntmps20
  go_wp2_with (go_at_call 24;refine HCK.out.mono ?_;rintro e w1 ⟨rfl,hb1⟩)
  first|go_ret2|skip
  rw[<-HPO.out,HRS.out];exact FsPost.empty hb1
 rw[if_neg (by omega)] at hof;have HRS:=jq hof;clear hof;go_enter Tryz.func20,Tryz.ntmps20
 go_wp2_with (go_at_call 24;refine HCK.out.mono ?_;rintro e w1 ⟨rfl,hb1⟩)
 have H1:=jq (H.out.here hb1);clear hb1 H HCK
 go_loopw [6,8,20] (fun o _ i wr=>∃(k:Nat) (A1:Option Addr) (c1:Nat) (ys:List Fx),k<=n/\o=.slice A1 ys.length c1/\i=.int .i64 k/\Hid (Kp w [] wr)/\Hid (Own QF 21 43 wr w.1.size (.slice A1 ys.length c1) ys)/\Hid (ys.map (·.1)=((xs.map (·.1)).take k).filter (fun f=>decide (f.day<=d)))/\Hid (∀y∈ys,y∈xs)) (fun _ _ i _=>n-(intOf i).toNat)
 case atStart=>exact⟨0,none,0,[],Nat.zero_le _,rfl,rfl,H1,Own.nil,rfl,(show ∀y∈([]:List Fx),y∈xs from fun y hy=>by cases hy)⟩
 case round=>
  clear H1;obtain⟨k,A1,c1,ys,hk,rfl,rfl,H,HO,HY,HM⟩:=hrel
  by_cases hlt:k<n
  ·obtain⟨b,off,f,v,rfl,hb,hx,hm,hr⟩:=(HS.out.below H.out.bl).at_ hlt
   have hld:=Qi hr;have hst:=fun cs (hc:cs.size=21)=>QB wr f v (cs:=cs) hc
   have HX:=jq hx;have HB:=jq (H.out.new wr.1.size rfl (Qb f v) 43);have HO1:=jq (HO.out.alloc (.cells (Qb f v) 43))
   have HYL:=jq (show ys.length<=100000 by
    have h1:=congrArg List.length HY.out;rw[List.length_map] at h1;have h2:=List.length_filter_le (fun f:Fct=>decide (f.day<=d)) ((xs.map (·.1)).take k);rw[List.length_take] at h2;omega)
   clear hx hr hb hm HO;go_upto_region 9 with (fail)
   generalize wr.alloc (.cells (Qb f v) 43)=W1 at*;clear hld hst;generalize hbb:wr.1.size=b1 at*;clear hbb;have c3:=HB.out.c 0 3 rfl (show(Qb f v)[3]?=some (.int .i64 f.day) from rfl);have hl1:=Qj (HB.out.at_ 0 rfl) (Qg f v)
   by_cases hd:f.day<=d
   ·have HYN:=jq (Zcv (p:=fun f=>decide (f.day<=d)) HX.out (decide_eq_true hd));have hbf:=Vo W1 f v;have HSL:=jq (Za0 (f:=f) (v:=v) (heap_alloc_new W1 (.cells (Qb f v) 43)));have HO2:=jq (HO1.out.alloc (.cells (Qb f v) 43));have HB2:=jq (HB.out.alloc (.cells (Qb f v) 43));generalize W1.alloc (.cells (Qb f v) 43)=W2 at*;go_wp2_with (at_builtin;refine Qs _ rfl (.tmp 28) (.tmp 30) _ rfl QO Qc QV (base:=w.1.size) (.slice A1 ys.length c1) ys rfl HO2.out _ _ 1 1 [(f,v)] rfl HSL.out (by have:=HYL.out;omega) HB2.out.bl.size ?_;intro A2 c2 w2 ho2 hg2 hat2;have HO3:=jq ho2;have HG2:=jq hg2;clear ho2 hg2 hat2)
    go_roundw
    case rel=>
     refine⟨k+1,A2,c2,ys++[(f,v)],by omega,by rw[List.length_append];rfl,by go_num,?_,(by have h:=HO3.out;rw[List.length_append];exact h),(show _=_ by rw[List.map_append,HY.out,HYN.out];rfl),fun y hy=> ?_⟩
     ·refine⟨HB2.out.pow,HB2.out.bl.trans (Qn HG2.out HB2.out.bl.size (Nat.le_refl _) (fun r e=> ?_)),fun _ h=>by simp at h,.nil,fun _ h=>by simp at h⟩;obtain⟨_,_,_,_,_,_,h5⟩:=HO2.out.form
      exact(h5 r e).2.1
     ·rcases List.mem_append.1 hy with hy|hy
      ·exact HM.out y hy
      ·rw[List.mem_singleton.1 hy];exact List.mem_of_getElem? HX.out
    case measure=>simp[intOf];omega
   ·have HYN:=jq (Zcw (p:=fun f=>decide (f.day<=d)) HX.out (decide_eq_false hd));go_wp2_with fail
    go_roundw
    case rel=>exact⟨k+1,A1,c1,ys,by omega,rfl,by go_num,HB.out.bare,HO1.out,(show _=_ by rw[HY.out,HYN.out]),HM.out⟩
    case measure=>simp[intOf];omega
  ·obtain rfl:k=n:=by omega
   have HYN:=jq (show ys.map (·.1)=(xs.map (·.1)).filter (fun f=>decide (f.day<=d)) by have h:=HY.out;rwa [List.take_of_length_le (by rw[List.length_map,<-HNW.out];exact Nat.le_refl _)] at h);go_wp2_with fail
   first|go_ret2|skip
   rw[<-HPO.out,HRS.out];exact⟨A1,c1,ys,rfl,⟨HO.out.sl Qc,fun y hy=>((HS.out.all y (HM.out y hy)).below H.out.bl).more H.out.bl.size⟩,HYN.out,⟨HO.out.room.1,HO.out.room.2.1,HO.out.room.2.2,fun y hy=>(HS.out.all y (HM.out y hy)).below H.out.bl⟩,H.out.bl⟩
end
section
open Go.RowKit Go.Shelf Go.Sort
abbrev Fk:={x:Fx//I64 x.1.kind}
instance:Inhabited Fk:=⟨⟨(⟨[],0,false,0,0,[],[],[],[],[],[],[],⟨[],[]⟩,⟨[],[]⟩,⟨[],[]⟩,[],[],0⟩,⟨none,0,0,none,0,0⟩),by unfold I64;exact⟨by decide,by decide⟩⟩⟩
def fkE(x:Fk):List Value:=QF x.1
def fkC(x y:Fk):Int:=QH x.1.1 y.1.1
theorem fkL(x y:Fk):ltOf fkC x y=true↔bef x.1.1 y.1.1:=by unfold ltOf fkC;rw[decide_eq_true_eq,QY]
theorem Znt{f h:Fct}(k:bef f h)(g:Fct):bef f g\/bef g h:=by
 unfold bef at*
 rcases k with a|⟨a,b|⟨b,c⟩⟩
 ·by_cases h1:f.day<g.day
  ·exact .inl (.inl h1)
  ·exact .inr (.inl (by omega))
 ·rcases Int.lt_trichotomy f.day g.day with h1|h1|h1
  ·exact .inl (.inl h1)
  ·by_cases h2:Xe f.kind<Xe g.kind
   ·exact .inl (.inr ⟨h1,.inl h2⟩)
   ·exact .inr (.inr ⟨by omega,.inl (by omega)⟩)
  ·exact .inr (.inl (by omega))
 ·rcases Int.lt_trichotomy f.day g.day with h1|h1|h1
  ·exact .inl (.inl h1)
  ·rcases Int.lt_trichotomy (Xe f.kind) (Xe g.kind) with h2|h2|h2
   ·exact .inl (.inr ⟨h1,.inl h2⟩)
   ·rcases Ve f.key g.key with h3|h3|h3
    ·exact .inl (.inr ⟨h1,.inr ⟨h2,h3⟩⟩)
    ·exact .inr (.inr ⟨by omega,.inr ⟨by omega,h3▸c⟩⟩)
    ·exact .inr (.inr ⟨by omega,.inr ⟨by omega,List.lt_trans h3 c⟩⟩)
   ·exact .inr (.inr ⟨by omega,.inl (by omega)⟩)
  ·exact .inr (.inl (by omega))
theorem fkO:SWO (ltOf fkC) where
 irrefl x:=by
  cases h:ltOf fkC x x with
  |false=>rfl
  |true=>exact absurd ((fkL x x).1 h) (ZbI _)
 trans x y z h1 h2:=(fkL x z).2 (XT ((fkL x y).1 h1) ((fkL y z).1 h2))
 ntrans x y z h1 h2:=by
  cases h:ltOf fkC x z with
  |false=>rfl
  |true=>
   rcases Znt ((fkL x z).1 h) y.1.1 with h3|h3
   ·rw[(fkL x y).2 h3] at h1;cases h1
   ·rw[(fkL y z).2 h3] at h2;cases h2
section
variable {w w0 W W':World} {p c n:Nat} {T:TypeId} {xs:List Fx} {base:Nat}
theorem ZbQ{d:Array Fk}(hd:d.toList.map (·.1)=xs):d.size=xs.length:=by rw[<-hd,List.length_map,Array.length_toList]
theorem Zhy{d:Array Fk}(hd:d.toList.map (·.1)=xs){i:Nat}(hi:i<d.size):xs[i]?=some (d[i]!).1:=by
 rw[<-hd,List.getElem?_map,Array.getElem?_toList,Array.getElem?_eq_getElem hi,getElem!_pos d i hi];rfl
theorem Zk7{d:Array Fk}(hd:d.toList.map (·.1)=xs)(h:Own QF 21 T W base (.slice (some ⟨p,0,none⟩) xs.length c) xs):HoldsK fkE 21 W p 0 d:=by
 intro j hj;rw[size_flatK] at hj;have hi:j/21<d.size:=by omega
 have hx:=Zhy hd hi;obtain⟨b,off,hA,_,hc⟩:=(h.sl Qc).2 (by rw[<-ZbQ hd];omega)
 injection hA with hA;injection hA with h1 h2;subst h1;subst h2
 have hl:(QF (d[j/21]!).1)[j%21]?=some ((fkE d[j/21]!)[j%21]!):=by
  have hlt:j%21<(fkE d[j/21]!).length:=by show j%21<(QF _).length;rw[Qc];omega
  rw[getElem!_pos (fkE _) _ hlt];exact List.getElem?_eq_getElem hlt
 refine⟨?_,h.frozen _⟩;have:=hc (j/21) _ hx (j%21) _ hl
 rw[get_flatK _ _ _ _ hj,show(0:Nat)+j=0+j/21*21+j%21 by omega];exact this
theorem ZcJ(d:Array Fk)(m:Nat)(os:Array Obj):W.grownBy (sortWorldK fkE 21 W p 0 m d os) (some p):=by
 refine⟨rfl,rfl,rfl,by simp[sortWorldK,putRowK],fun k hk hne=> ?_⟩;unfold sortWorldK;rw[heap_grow_old _ _ (by simpa[putRowK] using hk)];have:p≠k:=fun e=>hne (by rw[e])
 simp[putRowK,putRow,mapBlock,Sort.ahead,Array.getElem?_modify,this]
theorem Znu{d d':Array Fk}{m:Nat}{os:Array Obj}(hs:d'.size=d.size)(hd:d.toList.map (·.1)=xs)(h:Own QF 21 T W base (.slice (some ⟨p,0,none⟩) xs.length c) xs):
 Own QF 21 T (sortWorldK fkE 21 W p 0 m d' os) base (.slice (some ⟨p,0,none⟩) xs.length c) (d'.toList.map (·.1)):=by
 have hl:(d'.toList.map (·.1)).length=xs.length:=by rw[List.length_map,Array.length_toList,hs,ZbQ hd]
 refine⟨by rw[Qp Qc],?_⟩
 rcases h.2 with ⟨h0,_⟩|⟨g',cap,cur,hv,hb,hg,hnc,hcm,hcs,ht⟩
 ·cases h0
 ·injection hv with a1 a2 a3;injection a1 with a1;injection a1 with a1;subst a1;subst a3
  have hlen:xs.length*21<=cur.size:=by
   have h1:=congrArg List.length ht;rw[List.length_take,Qp Qc,Array.length_toList] at h1;omega
  refine .inr ⟨p,c,putCells id 0 (flatK fkE 21 d') cur,by rw[hl],hb,?_,by omega,hcm,by rw[<-hcs];simp[putCells],?_⟩
  ·unfold sortWorldK;have hlt:p<W.1.size:=(Array.getElem?_eq_some_iff.1 hg).1;rw[heap_grow_old _ _ (by simpa[putRowK] using hlt)];simp only[putRowK,putRow,mapBlock,Sort.ahead,Array.getElem?_modify,hg,onCells,if_pos,Option.map_some]
  ·rw[hl];refine List.ext_getElem? fun t=> ?_
   rw[List.getElem?_take]
   split
   ·rename_i ht'
    have hds:d'.size=xs.length:=by rw[hs,ZbQ hd]
    have hi:t/21<d'.size:=by omega
    have hx:=Zhy (xs:=d'.toList.map (·.1)) (d:=d') rfl hi
    have hlk:(QF (d'[t/21]!).1)[t%21]?=some ((fkE d'[t/21]!)[t%21]!):=by
     have hlt:t%21<(fkE d'[t/21]!).length:=by show t%21<(QF _).length;rw[Qc];omega
     rw[getElem!_pos (fkE _) _ hlt];exact List.getElem?_eq_getElem hlt
    have h3:=Vk Qc _ (t/21) (t%21) _ _ hx hlk;rw[show t/21*21+t%21=t by omega] at h3;rw[h3,Array.getElem?_toList];simp only[putCells,Array.getElem?_mapIdx];rw[Array.getElem?_eq_getElem (by omega),Option.map_some,if_pos ⟨Nat.zero_le _,by rw[size_flatK];omega⟩,Nat.sub_zero,get_flatK _ _ _ _ (by omega)];rfl
   ·rename_i ht'
    rw[List.getElem?_eq_none];rw[Qp Qc,hl];omega
end
theorem Zc1{w w':World}{B p:Nat}(h:w.grownBy w' (some p))(hB:B<=p)(hs:B<=w.1.size):Below B w w':=
 ⟨h.os,h.tape,h.output,h.size,fun k hk=>h.block k (by omega) (fun e=>by injection e with e;omega)⟩
theorem ZgA(p c:Nat)(xs:List Fx)(w0 W:World)(hp:Env w0)(hb:Below w0.1.size w0 W)(hpl:w0.1.size<=p)(hown:Own QF 21 43 W w0.1.size (.slice (some ⟨p,0,none⟩) xs.length c) xs)(hk:∀x∈xs,I64 x.1.kind)(hn:xs.length<=100000):
 Calls Tryz.prog 29 #[.slice (some ⟨p,0,none⟩) xs.length c,.func (.func 30) #[] #[]] W fun e w'=>e=.returned (.tuple #[])/\W.grownBy w' (some p)/\
  ∃ys:List Fx,ys.Perm xs/\(∀(i j:Nat) (x y:Fx),i<j->ys[i]?=some x->ys[j]?=some y->¬bef y.1 x.1)/\Own QF 21 43 w' w0.1.size (.slice (some ⟨p,0,none⟩) ys.length c) ys:=by
 obtain⟨d,hd⟩:∃d:Array Fk,d.toList.map (·.1)=xs:=⟨(xs.attach.map fun x=>⟨x.1,hk x.1 x.2⟩).toArray,by
  rw[List.map_map];exact List.attach_map_subtype_val xs⟩
 have hsz:=ZbQ hd
 have hlt:p<W.1.size:=by
  obtain⟨_,_,_,h|⟨g,hA,_,hg⟩⟩:=hown.facts
  ·cases h.1
  ·injection hA with hA;injection hA with hA;subst hA;exact hg
 have h:=AnyQ.slices_SortFunc Tryz.sortFt 21 (fun w=>by kernel_rfl) (fun w=>by kernel_rfl) fkE (fun x=>Qc x.1) (fun x=>QV x.1) fkC fkO 30 #[] p 0 c d W (enters_of Tryz.func30 (by kernel_rfl) rfl)
  (fun m os dk _ x y=>by
    have hgr:=ZcJ (W:=W) (p:=p) dk m os;have hbl:=hb.trans (Zc1 hgr hpl hb.size);have h2:=ZeN (VK x.1.1 y.1.1 x.1.2 y.1.2 x.2 y.2 (sortWorldK fkE 21 W p 0 m dk os) (hp.here hbl)) (fun w' hw=>by cases hw.1);exact h2.mono fun e w' h3=>⟨h3.1.1,ZcY h3.1.2 h3.2⟩)
  (Zk7 hd hown) hlt (by omega)
 rw[hsz] at h;refine h.mono ?_;rintro e w' ⟨he,d',m,os,hpm,hso,rfl⟩;have hs':=hpm.1;refine⟨he,ZcJ d' m os,d'.toList.map (·.1),?_,?_,?_⟩
 ·have h1:=hpm.2.2;rw[<-hsz,<-hs',Array.extract_size] at h1;rw[hs',Array.extract_size] at h1;rw[<-hd];exact h1.map _
 ·intro i j x y hij hx hy hbf;have hj:j<d'.size:=by have:=(List.getElem?_eq_some_iff.1 hy).1;simpa using this
  have e1:=Zhy (xs:=d'.toList.map (·.1)) (d:=d') rfl hj;have e2:=Zhy (xs:=d'.toList.map (·.1)) (d:=d') rfl (i:=i) (by omega);rw[hy] at e1;rw[hx] at e2
  injection e1 with e1;injection e2 with e2
  subst e1;subst e2
  have:=hso i j (Nat.zero_le _) hij (by omega)
  rw[(fkL _ _).2 hbf] at this
  cases this
 ·rw[show(d'.toList.map (·.1)).length=xs.length by rw[List.length_map,Array.length_toList,hs',hsz]];exact Znu hs' hd hown
theorem ZgB(c:Nat)(A:Option Addr)(fv:Value)(w:World):Calls Tryz.prog 29 #[.slice A 0 c,fv] w fun e w'=>e=.returned (.tuple #[])/\w'=w:=
 AnyF.slices_SortFunc_none Tryz.sortFt A c fv w
theorem ZgC(A:Option Addr)(c:Nat)(xs:List Fx)(w0 W:World)(hp:Env w0)(hb:Below w0.1.size w0 W)(hown:Own QF 21 43 W w0.1.size (.slice A xs.length c) xs)(hk:∀x∈xs,I64 x.1.kind)(hn:xs.length<=100000):
 Calls Tryz.prog 29 #[.slice A xs.length c,.func (.func 30) #[] #[]] W fun e w'=>e=.returned (.tuple #[])/\W.grownBy w' (Value.slice A xs.length c).ownBlock/\
  ∃ys:List Fx,ys.Perm xs/\(∀(i j:Nat) (x y:Fx),i<j->ys[i]?=some x->ys[j]?=some y->¬bef y.1 x.1)/\Own QF 21 43 w' w0.1.size (.slice A ys.length c) ys:=by
 rcases hown.facts with ⟨_,_,_,⟨rfl,rfl,rfl⟩|⟨g,rfl,hg1,hg2⟩⟩
 ·refine(ZgB 0 none _ W).mono ?_;rintro e w' ⟨he,rfl⟩;exact⟨he,⟨rfl,rfl,rfl,Nat.le_refl _,fun _ _ _=>rfl⟩,[],List.Perm.refl _,fun i j x y _ h=>by simp at h,hown⟩
 ·exact ZgA g c xs w0 W hp hb hg1 hown hk hn
end
section
open Go.RowKit Go.Shelf
attribute [local go_sem] Oper.semAt_some
attribute [local go_sem ↓] Ql Qz YP
theorem ZiI{fs:List Fct}{f:Fct}:YT fs f=if Xh fs≠0 then([],1) else if Qt f≠0 then([],Qt f) else if 1000<(Zaz fs f).length then([],4) else(Zaz fs f,0):=rfl
theorem Zle{xs:List Fx}{key:List UInt8}:(xs.filter (fun x=> !(x.1.key==key))).map (·.1)=(xs.map (·.1)).filter (fun x=>x.key !=key):=by
 rw[List.filter_map];rfl
theorem ZfB(A:Option Addr)(n c:Nat)(xs:List Fx)(f:Fct)(v:FaV)(w:World)(hp:Env w)(hnil:A=none->c=0)(hcap:n<=c)(hs:Fxs w w.1.size A n xs)(hn:n<=100000)(hf:FxM w w.1.size (f,v)):
 Calls Tryz.prog 22 #[.slice A n c,.agg (Qb f v)] w (FsPost (YT (xs.map (·.1)) f).1 (YT (xs.map (·.1)) f).2 w):=by
 have H:=jq ((Kp.start hp).new w.1.size rfl (Qb f v) 43);have hof:=ZiI (fs:=xs.map (·.1)) (f:=f);have HCK:=jq (fun W (hb:Below w.1.size w W)=>XA A n c xs W (hp.here hb) (hs.here hb) (by omega));have HFC:=jq (fun W (hb:Below w.1.size w W)=>Zea (hp.here hb) (hf.here hb));have HS:=jq hs;have HF:=jq hf;have HVO:=jq (fun h=>(Vu (xs.map (·.1))).1 h);generalize Xh (xs.map (·.1))=lc at*;generalize YT (xs.map (·.1)) f=res at*;generalize hpo:FsPost res.1 res.2 w=post;have HPO:=jq hpo;have hl0:=Qj (H.out.at_ 0 rfl) (Qg f v);clear hpo hs hp hf
 by_cases h0:lc=0
 case neg=>
  rw[if_pos h0] at hof;have HRS:=jq hof;have hz:(lc !=0)=true:=by simp[h0]
  clear hof h0;go_enter Tryz.func22,Tryz.ntmps22
  go_wp2_with fail
  refine(HCK.out _ H.out.bl).mono ?_;rintro e w1 ⟨rfl,hb1⟩;go_wp2_with fail
  first|go_ret2|skip
  rw[<-HPO.out,HRS.out];exact FsPost.empty (H.out.here hb1).bl
 rw[if_neg (by simpa using h0)] at hof;have HV:=jq (HVO.out h0);subst h0;clear HVO;go_enter Tryz.func22,Tryz.ntmps22
 go_wp2_with fail
 refine(HCK.out _ H.out.bl).mono ?_;rintro e w1 ⟨rfl,hb1⟩;have H1:=jq (H.out.here hb1);obtain⟨bf,hbf⟩:∃bf,w.1.size=bf:=⟨_,rfl⟩
 have HBF:=jq hbf;rw[hbf] at H1 ⊢;clear hl0 hb1 H HCK hbf;have hl1:=Qj (H1.out.at_ 0 rfl) (Qg f v);go_wp2_with fail
 refine(HFC.out _ H1.out.bl).mono ?_;rintro e w2 ⟨rfl,hb2⟩;have H2:=jq (H1.out.here hb2);have HZC:=jq (fun(h:Qt f=0) (hc:f.cancelled=false)=>Zl3 h hc);clear hl1 hb2 H1 HFC
 by_cases hz:Qt f=0
 case neg=>
  rw[if_pos hz] at hof;have HRS:=jq hof;generalize Qt f=z at*;have hz0:(z !=0)=true:=by simp[hz]
  clear hof hz;go_wp2_with fail
  first|go_ret2|skip
  rw[<-HPO.out,HRS.out];exact FsPost.empty H2.out.bl
 rw[if_neg (by simpa using hz)] at hof;rw[hz];clear hz HZC;have HCL:=jq (Ze9 A n c xs w2 hnil hcap (HS.out.here H2.out.bl).sl (by omega));go_wp2_with fail
 refine HCL.out.mono ?_;rintro e w3 ⟨A3,c3,rfl,ho3,hb3⟩;have H3:=jq (H2.out.here hb3);have HO3:=jq ho3
 have hne3:(Value.slice A3 xs.length c3).ownBlock≠some bf:=fun e=>by
  obtain⟨_,_,_,_,_,_,h5⟩:=ho3.form
  have:=(h5 bf e).2.1
  have:=(H2.out.at_ 0 rfl).lt
  omega
 have HXL:=jq (show xs.length<=1000000 by have:=HS.out.len;omega);have HDL:=jq (Zie f v bf A3 xs.length c3 w2.1.size xs w3 ho3 (fun x hx=>((HS.out.here H3.out.bl).all x hx)) (H3.out.at_ 0 rfl) hne3 HXL.out);have HB23:=jq (show w2.1.size<=w3.1.size from hb3.size);clear HCL ho3 hb3;go_wp2_with fail
 refine HDL.out.mono ?_;rintro e w4 ⟨zs,rfl,hzs,ho4,hg4⟩
 have hob:∀r,(Value.slice A3 xs.length c3).ownBlock=some r->w2.1.size<=r:=fun r e=>by
  obtain⟨_,_,_,_,_,_,h5⟩:=HO3.out.form
  exact(h5 r e).2.1
 have hs23:w.1.size<=w2.1.size:=H2.out.bl.size;have hbl4:=H3.out.bl.trans (Qn hg4 H3.out.bl.size hs23 (fun r e=>hob r e));have hX4:BlkB w4 bf (Qb f v) 43:=(hg4.block bf (H3.out.at_ 0 rfl).lt (fun e=>hne3 e.symm)).trans (H3.out.at_ 0 rfl);have H4:=jq (show Kp w [(bf,Qb f v,43)] w4 from⟨H3.out.pow,hbl4,H3.out.own,H3.out.ord,fun b hb=>by rw[List.mem_singleton.1 hb];exact hX4⟩);have HO4:=jq ho4;have HZ4:=jq hzs
 have HM4:=jq (show ∀W,Below w.1.size w W->∀x∈zs,FxM W W.1.size x from fun W hb x hx=>by
  rw[hzs] at hx;exact(HS.out.here hb).all x (List.mem_filter.1 hx).1)
 have HM5:=jq (show ∀W,Below w.1.size w W->∀x∈zs,FxM W w.1.size x from fun W hb x hx=>by
  rw[hzs] at hx;exact(HS.out.all x (List.mem_filter.1 hx).1).below hb)
 have HFM:=jq (show zs.map (·.1)=(xs.map (·.1)).filter (fun x=>x.key !=f.key) by rw[hzs];exact Zle);have HZL:=jq (show zs.length<=1000000 by rw[hzs];exact Nat.le_trans (List.length_filter_le _ _) HXL.out);have HNE4:=jq (show(Value.slice A3 zs.length c3).ownBlock≠some bf by cases A3<;>exact hne3);have HB24:=jq (show w.1.size<=w2.1.size/\w2.1.size<=w4.1.size from⟨hs23,Nat.le_trans HB23.out hg4.size⟩);have HFV:=jq (show ∀W,Below w.1.size w W->FxM W W.1.size (Xk f,v) from fun W hb=>ZeL (HF.out.here hb));clear HDL hzs ho4 hg4 hob hs23 hbl4 hX4 hne3 H3 HO3 HB23;have y2:=H4.out.c 0 2 rfl (show(Qb f v)[2]?=some (.bool f.cancelled) from rfl);have hnx:Zaz (xs.map (·.1)) f=if f.cancelled=true then(xs.map (·.1)).filter (fun x=>x.key !=f.key) else Vr (Xk f) ((xs.map (·.1)).filter (fun x=>x.key !=f.key)):=rfl
 rw[<-HFM.out] at hnx
 cases hcn:f.cancelled with
 |true=>
  rw[hcn] at y2;rw[if_pos hcn] at hnx;rw[hnx,List.length_map] at hof
  by_cases hl:1000<zs.length
  ·rw[if_pos hl] at hof;have HRS:=jq hof;have hlz:(1000:Int)<(zs.length:Int):=by omega
   clear hof hnx hcn hl;go_wp2_with fail
   first|go_ret2|skip
   rw[<-HPO.out,HRS.out];exact FsPost.empty H4.out.bl
  ·rw[if_neg hl] at hof;have HRS:=jq hof;have hlz:¬(1000:Int)<(zs.length:Int):=by omega
   clear hof hnx hcn hl;go_wp2_with fail
   first|go_ret2|skip
   rw[<-HPO.out,HRS.out];exact⟨A3,c3,zs,rfl,⟨HO4.out.sl Qc,HM4.out _ H4.out.bl⟩,rfl,⟨HO4.out.room.1,HO4.out.room.2.1,fun a e=>Nat.le_trans HB24.out.1 (HO4.out.room.2.2 a e),HM5.out _ H4.out.bl⟩,H4.out.bl⟩
 |false=>
  rw[hcn] at y2;rw[if_neg (by rw[hcn];decide)] at hnx;have y1:=H4.out.c 0 1 rfl (show(Qb f v)[1]?=some (.int .i64 f.stamp) from rfl);have f1:=H4.out.f 0 1 rfl;have HS5:=jq (H4.out.set 0 1 rfl (.int .i64 0));have HO5:=jq (HO4.out.far (p:=⟨bf,1,none⟩) HNE4.out (.int .i64 0));simp only[List.set_cons_zero,Zaa] at HS5;have hs5:(w4.setCell ⟨bf,1,none⟩ (.int .i64 0)).heap.size=w4.1.size:=by simp
  have HB25:=jq (show w2.1.size<=(w4.setCell ⟨bf,1,none⟩ (.int .i64 0)).heap.size by rw[hs5];exact HB24.out.2)
  have HZN:=jq (show zs.length<=100000 by
   have h1:=congrArg List.length HFM.out;rw[List.length_map] at h1;have h2:=List.length_filter_le (fun x=>x.key !=f.key) (xs.map (·.1));rw[List.length_map] at h2;have:=HS.out.len
   omega)
  have HSR:=jq (show Srt (zs.map (·.1)) by rw[HFM.out];exact HV.out.srt.sublist List.filter_sublist)
  have HKN:=jq (show ∀g∈zs.map (·.1),g.key≠(Xk f).key from fun g hg=>by
   rw[HFM.out] at hg;have h:=(List.mem_filter.1 hg).2;have h2:g.key≠f.key:=by simpa using h
   exact h2)
  have HBS:=jq (Zkr A3 zs.length c3 zs (Xk f) v _ HS5.out.pw ⟨HO5.out.sl Qc,HM4.out _ HS5.out.bl⟩ HZN.out HF.out.sz.kind HSR.out);have hl5:=Qj (HS5.out.at_ 0 rfl) (Qg (Xk f) v);clear hs5 hcn;go_wp2_with fail
  generalize w4.setCell ⟨bf,1,none⟩ (.int .i64 0)=w5 at*;refine HBS.out.mono ?_;rintro e w6 ⟨i,b,rfl,hba,hb6⟩;have H6:=jq (HS5.out.here hb6);have HBA:=jq hba;have ho6:=HO5.out.below hb6;have hl6:=Qj (H6.out.at_ 0 rfl) (Qg (Xk f) v);have hbf6:=Vo w6 (Xk f) v
  have hne6:(Value.slice A3 zs.length c3).ownBlock≠some w6.1.size:=fun e=>by
   obtain⟨_,_,_,_,_,_,h5⟩:=ho6.form
   have:=(h5 _ e).2.2
   omega
  have H7:=jq (H6.out.alloc (.cells (Qb (Xk f) v) 43));have HB27:=jq (show w2.1.size<=(w6.alloc (.cells (Qb (Xk f) v) 43)).heap.size by have:=HB25.out;have:=hb6.size;simp;omega);have HIN:=jq (Zif A3 zs.length c3 i w6.1.size w2.1.size zs (Xk f) v _ (ho6.alloc (.cells (Qb (Xk f) v) 43)) (heap_alloc_new w6 _) hne6 (by have:=hba.len;rwa [List.length_map] at this) HZL.out HB27.out);clear hl5 HBS hba hb6 ho6 hne6 y1 f1 y2;go_wp2_with fail
  generalize w6.alloc (.cells (Qb (Xk f) v) 43)=w7 at*;refine HIN.out.mono ?_;rintro e w8 ⟨A8,c8,rfl,ho8,hb8⟩;have HBL8:=jq (H7.out.bl.trans (hb8.mono HB24.out.1));have HO8:=jq ho8
  have HLM:=jq (show(zs.take i++(Xk f,v)::zs.drop i).map (·.1)=Zaz (xs.map (·.1)) f by
   rw[hnx,Zhl HKN.out HBA.out,List.map_append,List.map_take,List.map_cons,List.map_drop])
  have HLL:=jq (show(zs.take i++(Xk f,v)::zs.drop i).length=zs.length+1 by
   have:=HBA.out.len
   rw[List.length_map] at this;rw[List.length_append,List.length_cons,List.length_take,List.length_drop];omega)
  have HMM:=jq (show ∀x∈zs.take i++(Xk f,v)::zs.drop i,FxM w8 w8.1.size x from fun x hx=>by
   rcases List.mem_append.1 hx with hx|hx
   ·exact HM4.out _ HBL8.out x (List.mem_of_mem_take hx)
   ·rcases List.mem_cons.1 hx with rfl|hx
    ·exact HFV.out _ HBL8.out
    ·exact HM4.out _ HBL8.out x (List.mem_of_mem_drop hx))
  have HMN:=jq (show ∀x∈zs.take i++(Xk f,v)::zs.drop i,FxM w8 w.1.size x from fun x hx=>by
   rcases List.mem_append.1 hx with hx|hx
   ·exact HM5.out _ HBL8.out x (List.mem_of_mem_take hx)
   ·rcases List.mem_cons.1 hx with rfl|hx
    ·exact ZeL (HF.out.below HBL8.out)
    ·exact HM5.out _ HBL8.out x (List.mem_of_mem_drop hx))
  have hln:(Zaz (xs.map (·.1)) f).length=zs.length+1:=by rw[<-HLM.out,List.length_map,HLL.out]
  rw[hln] at hof;clear HIN ho8 hb8 hnx hln hl6 hbf6
  by_cases hl:1000<zs.length+1
  ·rw[if_pos hl] at hof;have HRS:=jq hof;have hlz:(1000:Int)<(zs.length:Int)+1:=by omega
   clear hof hl;go_wp2_with fail
   first|go_ret2|skip
   rw[<-HPO.out,HRS.out];exact FsPost.empty HBL8.out
  ·rw[if_neg hl] at hof;have HRS:=jq hof;have hlz:¬(1000:Int)<(zs.length:Int)+1:=by omega
   clear hof hl;go_wp2_with fail
   first|go_ret2|skip
   rw[<-HPO.out,HRS.out];refine⟨A8,c8,zs.take i++(Xk f,v)::zs.drop i,by rw[HLL.out];rfl,⟨?_,HMM.out⟩,HLM.out,⟨(by have h:=HO8.out.room.1;exact h),HO8.out.room.2.1,fun a e=>Nat.le_trans HB24.out.1 (HO8.out.room.2.2 a e),HMN.out⟩,HBL8.out⟩;rw[HLL.out];exact HO8.out.sl Qc
end
end Go.Proofs.YtmfjmngebldanaaGreatDoor
