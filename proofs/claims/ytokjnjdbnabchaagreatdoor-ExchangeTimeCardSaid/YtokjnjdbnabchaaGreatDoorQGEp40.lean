/- Vcp, Vbs, Va1, Vsl. -/
import Derived.Test.YtokjnjdbnabchaaGreatDoorQGEp27
import Derived.Test.YtokjnjdbnabchaaGreatDoorQGEp34
set_option maxRecDepth 100000
set_option maxHeartbeats 4000000
namespace Go.Proofs.YtokjnjdbnabchaaGreatDoor
open Go.Lib renaming hid→jq
open Go.RowKit Go.Shelf
section
attribute [local go_sem] Oper.semAt_some
attribute [local go_sem ↓] Go.wp_at_zero Go.wp_at_succ Qs QG JM
theorem Jm(w:World){cs pb:Array Value}(hc:cs.size=17)(hs:pb.size=17)(h1:pb.all (·.oneCell')=true):(stK (.pointer (some ⟨w.1.size,0,none⟩)) (.agg pb)).run Tryz.prog (w.alloc (.cells cs 182))=.ok () (w.alloc (.cells pb 182)):=by
 rw[Yk (show BlkB (w.alloc (.cells cs 182)) w.1.size cs 182 from heap_alloc_new w _) hc hs h1,World.setRow_alloc_new]
def ZbM(k:Int):Int:=if(Xv k).isSome=true then 0 else 7
theorem Zbb(k:Int)(hk:I64 k)(w:World)(hp:Env w):
 Calls Tryz.prog 151 #[.int .i64 k] w fun e w'=>e=.returned (.tuple #[.int .i64 (Xa k),.int .i64 (ZbM k)])/\Below w.1.size w w':=by
 have HK:=jq (Za9 w hp);have HI:=jq hk;have HBL:=jq (Below.refl w.1.size w);clear hp hk
 cases hr:Xv k with
 |none=>
  have HC:=jq (show Xa k=0 by unfold Xa;rw[hr]);have HE:=jq (show ZbM k=7 by unfold ZbM;rw[hr];rfl);have HR:=jq hr;generalize Xa k=ck at*;generalize ZbM k=ce at*;clear hr;go_enter Tryz.func151,Tryz.ntmps151
  go_wp2_with (go_at_call 148;refine HK.out.mono ?_;rintro e w1 ⟨bm,rfl,hR,hb1⟩;obtain⟨kb,hlk,hkk⟩:=hR.look HI.out;rw[HR.out] at hlk;simp only[Option.isSome] at hlk;have hst:=fun cs (hc:cs.size=17)=>Jm w1 (cs:=cs) hc hkk.size hkk.cell;clear hR hkk)
  go_ret2
  rw[HC.out,HE.out];exact⟨rfl,hb1.alloc hb1.size _⟩
 |some r=>
  have HC:=jq (show Xa k=r.cls by unfold Xa;rw[hr]);have HE:=jq (show ZbM k=0 by unfold ZbM;rw[hr];rfl);have HR:=jq hr;generalize Xa k=ck at*;generalize ZbM k=ce at*;clear hr;go_enter Tryz.func151,Tryz.ntmps151
  go_wp2_with (go_at_call 148;refine HK.out.mono ?_;rintro e w1 ⟨bm,rfl,hR,hb1⟩;obtain⟨kb,hlk,hkk⟩:=hR.look HI.out;rw[HR.out] at hlk;simp only[Option.isSome] at hlk;have hst:=fun cs (hc:cs.size=17)=>Jm w1 (cs:=cs) hc hkk.size hkk.cell;unfold KOk at hkk;rw[HR.out] at hkk;obtain⟨word,mv,rfl,_⟩:=hkk;have hc1:(w1.alloc (.cells (kB word r.cls r.has mv r.code) 182)).cell? ⟨w1.1.size,1,none⟩=some (.int .i64 r.cls):=(cell_of_row _ _ 1 _ _ _ (heap_alloc_new w1 _)).trans rfl;clear hR)
  go_ret2
  rw[HC.out,HE.out];exact⟨rfl,hb1.alloc hb1.size _⟩
theorem ZbN(f g:Fct)(u v:FaV)(hf:I64 f.kind)(hg:I64 g.kind)(w:World)(hp:Env w):
 Calls Tryz.prog 105 #[.agg (Qe f u),.agg (Qe g v)] w fun e w'=>e=.returned (.int .i64 (YG f g))/\Below w.1.size w w':=by
 have H:=jq (((Kp.start hp).new w.1.size rfl (Qe f u) 44).new (w.1.size+1) (by simp) (Qe g v) 44);have HC1:=jq (fun W (h:Env W)=>Zbb f.kind hf W h);have HC2:=jq (fun W (h:Env W)=>Zbb g.kind hg W h);have HD:=jq (fun W=>Zgp f.day g.day W);have HI:=jq (fun W=>Zgq (Xa f.kind) (Xa g.kind) W);have HS:=jq (fun W=>Zgr f.key g.key W);have HO:=jq (fun W=>ZhK (XM f.day g.day) (XM (Xa f.kind) (Xa g.kind)) (ZbB f.key g.key) W);rw[show or3 (XM f.day g.day) (XM (Xa f.kind) (Xa g.kind)) (ZbB f.key g.key)=YG f g from rfl] at HO;have x4:=H.out.c 1 4 rfl (show(Qe f u)[4]?=some (.int .i64 f.kind) from rfl);have X4:=jq (show(Qe g v)[4]?=some (.int .i64 g.kind) from rfl);have Y3:=jq (show(Qe f u)[3]?=some (.int .i64 f.day) from rfl);have Z3:=jq (show(Qe g v)[3]?=some (.int .i64 g.day) from rfl);have Y0:=jq (show(Qe f u)[0]?=some (.string ⟨f.key.toArray⟩) from rfl);have Z0:=jq (show(Qe g v)[0]?=some (.string ⟨g.key.toArray⟩) from rfl);generalize Qe f u=fb at*;generalize Qe g v=gb at*;generalize YG f g=res at*;generalize XM f.day g.day=d at*;generalize XM (Xa f.kind) (Xa g.kind)=cc at*;generalize ZbB f.key g.key=kk at*;generalize Xa f.kind=cf at*;generalize Xa g.kind=cg at*;generalize ZbM f.kind=ef at*;generalize ZbM g.kind=eg at*;clear hp hf hg;go_enter Tryz.func105,Tryz.ntmps105
 go_upto_region 1 with (fail)
 generalize hW:(w.alloc (.cells fb 44)).alloc (.cells gb 44)=W at*;generalize hp1:w.1.size+1=p1 at*;generalize hp0:w.1.size=p0 at*;clear hW;go_upto_region 2 with (go_at_call 151;refine(HC1.out _ H.out.pw).mono ?_;rintro e w1 ⟨rfl,hb1⟩)
 have H1:=jq (H.out.here hb1);clear x4 H hb1;have y4:=H1.out.c 0 4 rfl X4.out;go_upto_region 3 with (go_at_call 151;refine(HC2.out _ H1.out.pw).mono ?_;rintro e w2 ⟨rfl,hb2⟩)
 have H2:=jq (H1.out.here hb2);clear y4 H1 hb2;have HB:=jq (Below.refl w2.1.size w2);have HO2:=jq (show Calls Tryz.prog 152 #[.slice (some ⟨w2.1.size,0,none⟩) 3 3] (w2.alloc (.cells #[.int .i64 d,.int .i64 cc,.int .i64 kk] 3)).drew (fun e w'=>e=.returned (.int .i64 res)/\Below w2.1.size w2.drew w') from HO.out w2.drew)
 have HZ:=jq (show ∀w',Below w2.1.size w2 w'->w'.cell? ⟨p0,3,none⟩=some (.int .i64 f.day)/\w'.cell? ⟨p1,3,none⟩=some (.int .i64 g.day)/\w'.cell? ⟨p0,0,none⟩=some (.string ⟨f.key.toArray⟩)/\w'.cell? ⟨p1,0,none⟩=some (.string ⟨g.key.toArray⟩) from
  fun w' hb=>⟨(H2.out.here hb).c 1 3 rfl Y3.out,(H2.out.here hb).c 0 3 rfl Z3.out,(H2.out.here hb).c 1 0 rfl Y0.out,(H2.out.here hb).c 0 0 rfl Z0.out⟩)
 have HQ:=jq (show ∀w',Below w2.1.size w2 w'->Below w.1.size w w' from fun w' hb=>(H2.out.here hb).bl)
 go_region_held3 (fun X=>X.cell? ⟨p0,3,none⟩=some (.int .i64 f.day)/\X.cell? ⟨p1,3,none⟩=some (.int .i64 g.day)/\X.cell? ⟨p0,0,none⟩=some (.string ⟨f.key.toArray⟩)/\X.cell? ⟨p1,0,none⟩=some (.string ⟨g.key.toArray⟩))
  (first
    |exact HZ.out _ hz
    |exact HZ.out _ HB.out.drew
    |exact HZ.out _ (HB.out.drew.alloc (Nat.le_refl _) _)
    |exact HZ.out _ HB.out
    |go_keep)
  (first
    |(go_at_call 153;refine(HD.out _).mono ?_;rintro e v1 ⟨rfl,rfl⟩)
    |(go_at_call 154;refine(HI.out _).mono ?_;rintro e v2 ⟨rfl,rfl⟩)
    |(go_at_call 155;refine(HS.out _).mono ?_;rintro e v3 ⟨rfl,rfl⟩)
    |(go_at_call 152;refine(HO2.out).mono ?_;rintro e w3 ⟨rfl,hb3⟩;have hz:Below w2.1.size w2 w3:=HB.out.drew.trans hb3))
 all_goals
  go_wp2_with fail
  first|go_ret|skip
  exact⟨rfl,HQ.out _ hz⟩
end
section
attribute [local go_sem] Oper.semAt_some
attribute [local go_sem ↓] Go.wp_at_zero Go.wp_at_succ Qs QG
end
section
attribute [local go_sem] Oper.semAt_some
attribute [local go_sem ↓] Qs QG
end
section
attribute [local go_sem] Oper.semAt_some
attribute [local go_sem ↓] Qs QG
theorem Kp.low{w W W':World}{bs:List (Nat×Array Value×TypeId)}{B:Nat}(h:Kp w bs W)(hb:Below B W W')(hB:w.1.size<=B)(hlt:∀b∈bs,b.1<B):Kp w bs W':=
 ⟨h.pow,h.bl.trans (hb.mono hB),h.own,h.ord,fun b hm=>(hb.block b.1 (hlt b hm)).trans (h.blk b hm)⟩
end
end Go.Proofs.YtokjnjdbnabchaaGreatDoor
