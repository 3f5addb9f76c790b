/- . -/
import Derived.Test.YtpnncoinlopndaaGreatDoorQGMp39
import Derived.Test.YtpnncoinlopndaaGreatDoorQGMp41
set_option maxRecDepth 100000
set_option maxHeartbeats 4000000
namespace Go.Proofs.YtpnncoinlopndaaGreatDoor
open Go.Lib renaming hid→jq
section
open Go.RowKit Go.Shelf
theorem ZnD:m0.Sz 5000:=⟨by decide,by decide,by decide,⟨by decide,by decide⟩,⟨by decide,by decide⟩,⟨by decide,by decide⟩,by decide,by decide⟩
theorem ZnE:∀y∈l0,y.Sz 50000:=by
 intro y hy;unfold l0 at hy;simp only[List.mem_cons,List.mem_nil_iff,or_false] at hy
 rcases hy with rfl|rfl<;>exact⟨by decide,by decide,by decide,by decide,by decide,by decide,by decide,by decide,by decide⟩
theorem Zna:MpV m0=.agg #[.string ⟨#[120]⟩,.int .i64 9,.string ⟨#[97,98,99]⟩,.string ⟨#[100,101,102]⟩,.string ⟨#[49]⟩,.string ⟨#[50]⟩,.string ⟨#[49]⟩,.string ⟨#[]⟩,.string ⟨#[57]⟩,.string ⟨#[]⟩,.bool false]:=rfl
theorem ZgY(w:World)(hp:Env w):Calls Tryz.prog 7 #[] w fun e w'=>e=.returned (.bool true)/\Below w.1.size w w':=by
 have hls:QU (w.alloc (.cells #[.string ⟨#[97,47,49]⟩,.string ⟨#[97,98,99]⟩,.int .i64 1,.int .i64 2,.string ⟨#[49,48]⟩,.string ⟨#[49,48,48]⟩,.string ⟨#[]⟩,.string ⟨#[98,47,49]⟩,.string ⟨#[97,98,99]⟩,.int .i64 3,.int .i64 3,.string ⟨#[53]⟩,.string ⟨#[56,48]⟩,.string ⟨#[]⟩] 54)) (w.alloc (.cells #[.string ⟨#[97,47,49]⟩,.string ⟨#[97,98,99]⟩,.int .i64 1,.int .i64 2,.string ⟨#[49,48]⟩,.string ⟨#[49,48,48]⟩,.string ⟨#[]⟩,.string ⟨#[98,47,49]⟩,.string ⟨#[97,98,99]⟩,.int .i64 3,.int .i64 3,.string ⟨#[53]⟩,.string ⟨#[56,48]⟩,.string ⟨#[]⟩] 54)).heap.size (some ⟨w.1.size,0,none⟩) 2 l0:=
  (Sl.lit (enc:=L7) (k:=7) w #[.string ⟨#[97,47,49]⟩,.string ⟨#[97,98,99]⟩,.int .i64 1,.int .i64 2,.string ⟨#[49,48]⟩,.string ⟨#[49,48,48]⟩,.string ⟨#[]⟩,.string ⟨#[98,47,49]⟩,.string ⟨#[97,98,99]⟩,.int .i64 3,.int .i64 3,.string ⟨#[53]⟩,.string ⟨#[56,48]⟩,.string ⟨#[]⟩] 54 l0 rfl Ql).more (by simp)
 have hbA:Below w.1.size w (w.alloc (.cells #[.string ⟨#[97,47,49]⟩,.string ⟨#[97,98,99]⟩,.int .i64 1,.int .i64 2,.string ⟨#[49,48]⟩,.string ⟨#[49,48,48]⟩,.string ⟨#[]⟩,.string ⟨#[98,47,49]⟩,.string ⟨#[97,98,99]⟩,.int .i64 3,.int .i64 3,.string ⟨#[53]⟩,.string ⟨#[56,48]⟩,.string ⟨#[]⟩] 54)):=(Below.refl _ _).alloc (Nat.le_refl _) _;have HMP:=jq (Ziy (some ⟨w.1.size,0,none⟩) 2 2 l0 m0 (w.alloc (.cells #[.string ⟨#[97,47,49]⟩,.string ⟨#[97,98,99]⟩,.int .i64 1,.int .i64 2,.string ⟨#[49,48]⟩,.string ⟨#[49,48,48]⟩,.string ⟨#[]⟩,.string ⟨#[98,47,49]⟩,.string ⟨#[97,98,99]⟩,.int .i64 3,.int .i64 3,.string ⟨#[53]⟩,.string ⟨#[56,48]⟩,.string ⟨#[]⟩] 54)) 10 (hp.here hbA) hls (.inr ⟨_,rfl⟩) (by decide) ZnE (.inl ZnD) (by decide) (by decide) (by decide) (by decide) ⟨by decide,by decide⟩ ⟨by decide,by decide⟩ ⟨by decide,by decide⟩);rw[Zm9,Zna] at HMP;have HB:=jq hbA;have HP:=jq hp;clear hls hbA hp;go_enter Tryz.func7,Tryz.ntmps7
 go_wp2_with fail
 generalize w.alloc _=W0 at*;refine HMP.out.mono ?_;rintro e w1 ⟨A1,c1,Ag,cg,As,cs,rfl,oL,oG,oS,hb1⟩;have HL1:=jq oL;have hg0:g0.length=2:=rfl;have hr0:r0.length=2:=rfl;obtain⟨gb,go,x,hA,_,hx,x0,x1,x2,x3,x4,x5,x6,x7,x8,x9⟩:=(oG.sl VU).gain (i:=0) (by decide)
 obtain⟨gb',go',y,hA',_,hy,y0,y1,y2,y3,y4,y5,y6,y7,y8,y9⟩:=(oG.sl VU).gain (i:=1) (by decide)
 have ex:x=⟨[120],[97,47,49],[100,101,102],1,9,[],[51],[55],[],[]⟩:=by
  have h:g0[0]?=some ⟨[120],[97,47,49],[100,101,102],1,9,[],[51],[55],[],[]⟩:=rfl;exact Option.some.inj (hx.symm.trans h)
 have ey:y=⟨[120],[98,47,49],[100,101,102],3,9,[],[49],[53],[],[]⟩:=by
  have h:g0[1]?=some ⟨[120],[98,47,49],[100,101,102],3,9,[],[49],[53],[],[]⟩:=rfl;exact Option.some.inj (hy.symm.trans h)
 have hab:gb'=gb/\go'=go:=by
  rw[hA] at hA';injection hA' with h
  injection h with h1 h2;exact⟨h1.symm,h2.symm⟩
 obtain⟨rfl,rfl⟩:=hab
 subst ex;subst ey;subst hA
 have hgl:gb'<w1.1.size:=World.block_lt_of_cell? _ _ x6
 have HGX:=jq (show ∀X,Below w1.1.size w1 X->X.cell? ⟨gb',go'+6,none⟩=some (.string ⟨#[51]⟩)/\X.cell? ⟨gb',go'+7,none⟩=some (.string ⟨#[55]⟩)/\X.cell? ⟨gb',go'+10+6,none⟩=some (.string ⟨#[49]⟩)/\X.cell? ⟨gb',go'+10+7,none⟩=some (.string ⟨#[53]⟩) from fun X hX=>
  ⟨(hX.cell (p:=⟨gb',go'+6,none⟩) hgl).trans x6,(hX.cell (p:=⟨gb',go'+7,none⟩) hgl).trans x7,(hX.cell (p:=⟨gb',go'+10+6,none⟩) hgl).trans y6,(hX.cell (p:=⟨gb',go'+10+7,none⟩) hgl).trans y7⟩)
 clear x0 x1 x2 x3 x4 x5 x6 x7 x8 x9 y0 y1 y2 y3 y4 y5 y6 y7 y8 y9 hx hy hA' hgl
 dsimp only
 rw[hr0,hg0];have hb2:Below w1.1.size w1 (((w1.alloc (.cells #[.slice A1 2 c1,.slice (some ⟨gb',go',none⟩) 2 cg,.slice As (Yh m0 P0 l0).length cs,.slice none 0 0] 35)).alloc (.cells #[.string ⟨#[120,47,49]⟩,.string ⟨#[100,101,102]⟩,.int .i64 1,.int .i64 2,.string ⟨#[53]⟩,.string ⟨#[57,51]⟩,.string ⟨#[53]⟩,.string ⟨#[120,47,50]⟩,.string ⟨#[100,101,102]⟩,.int .i64 3,.int .i64 3,.string ⟨#[50]⟩,.string ⟨#[55,53]⟩,.string ⟨#[50]⟩] 54))):=((Below.refl _ _).alloc (Nat.le_refl _) _).alloc (by simp) _
 have hrs:QU (((w1.alloc (.cells #[.slice A1 2 c1,.slice (some ⟨gb',go',none⟩) 2 cg,.slice As (Yh m0 P0 l0).length cs,.slice none 0 0] 35)).alloc (.cells #[.string ⟨#[120,47,49]⟩,.string ⟨#[100,101,102]⟩,.int .i64 1,.int .i64 2,.string ⟨#[53]⟩,.string ⟨#[57,51]⟩,.string ⟨#[53]⟩,.string ⟨#[120,47,50]⟩,.string ⟨#[100,101,102]⟩,.int .i64 3,.int .i64 3,.string ⟨#[50]⟩,.string ⟨#[55,53]⟩,.string ⟨#[50]⟩] 54))) (((w1.alloc (.cells #[.slice A1 2 c1,.slice (some ⟨gb',go',none⟩) 2 cg,.slice As (Yh m0 P0 l0).length cs,.slice none 0 0] 35)).alloc (.cells #[.string ⟨#[120,47,49]⟩,.string ⟨#[100,101,102]⟩,.int .i64 1,.int .i64 2,.string ⟨#[53]⟩,.string ⟨#[57,51]⟩,.string ⟨#[53]⟩,.string ⟨#[120,47,50]⟩,.string ⟨#[100,101,102]⟩,.int .i64 3,.int .i64 3,.string ⟨#[50]⟩,.string ⟨#[55,53]⟩,.string ⟨#[50]⟩] 54))).heap.size (some ⟨w1.1.size+1,0,none⟩) 2 r0:=by
  have h:=(Sl.lit (enc:=L7) (k:=7) (w1.alloc (.cells #[.slice A1 2 c1,.slice (some ⟨gb',go',none⟩) 2 cg,.slice As (Yh m0 P0 l0).length cs,.slice none 0 0] 35)) #[.string ⟨#[120,47,49]⟩,.string ⟨#[100,101,102]⟩,.int .i64 1,.int .i64 2,.string ⟨#[53]⟩,.string ⟨#[57,51]⟩,.string ⟨#[53]⟩,.string ⟨#[120,47,50]⟩,.string ⟨#[100,101,102]⟩,.int .i64 3,.int .i64 3,.string ⟨#[50]⟩,.string ⟨#[55,53]⟩,.string ⟨#[50]⟩] 54 r0 rfl Ql).more (B':=(((w1.alloc (.cells #[.slice A1 2 c1,.slice (some ⟨gb',go',none⟩) 2 cg,.slice As (Yh m0 P0 l0).length cs,.slice none 0 0] 35)).alloc (.cells #[.string ⟨#[120,47,49]⟩,.string ⟨#[100,101,102]⟩,.int .i64 1,.int .i64 2,.string ⟨#[53]⟩,.string ⟨#[57,51]⟩,.string ⟨#[53]⟩,.string ⟨#[120,47,50]⟩,.string ⟨#[100,101,102]⟩,.int .i64 3,.int .i64 3,.string ⟨#[50]⟩,.string ⟨#[55,53]⟩,.string ⟨#[50]⟩] 54))).heap.size) (by simp);rw[show(w1.alloc (.cells #[.slice A1 2 c1,.slice (some ⟨gb',go',none⟩) 2 cg,.slice As (Yh m0 P0 l0).length cs,.slice none 0 0] 35)).heap.size=w1.1.size+1 by simp] at h;exact h
 have hEQ:=jq (ZcI A1 (some ⟨w1.1.size+1,0,none⟩) 2 c1 2 r0 (((w1.alloc (.cells #[.slice A1 2 c1,.slice (some ⟨gb',go',none⟩) 2 cg,.slice As (Yh m0 P0 l0).length cs,.slice none 0 0] 35)).alloc (.cells #[.string ⟨#[120,47,49]⟩,.string ⟨#[100,101,102]⟩,.int .i64 1,.int .i64 2,.string ⟨#[53]⟩,.string ⟨#[57,51]⟩,.string ⟨#[53]⟩,.string ⟨#[120,47,50]⟩,.string ⟨#[100,101,102]⟩,.int .i64 3,.int .i64 3,.string ⟨#[50]⟩,.string ⟨#[55,53]⟩,.string ⟨#[50]⟩] 54))) (((HL1.out.below hb2).sl Ql)) hrs (by decide));have HRB:=jq (show BlkB (((w1.alloc (.cells #[.slice A1 2 c1,.slice (some ⟨gb',go',none⟩) 2 cg,.slice As (Yh m0 P0 l0).length cs,.slice none 0 0] 35)).alloc (.cells #[.string ⟨#[120,47,49]⟩,.string ⟨#[100,101,102]⟩,.int .i64 1,.int .i64 2,.string ⟨#[53]⟩,.string ⟨#[57,51]⟩,.string ⟨#[53]⟩,.string ⟨#[120,47,50]⟩,.string ⟨#[100,101,102]⟩,.int .i64 3,.int .i64 3,.string ⟨#[50]⟩,.string ⟨#[55,53]⟩,.string ⟨#[50]⟩] 54))) w1.1.size #[.slice A1 2 c1,.slice (some ⟨gb',go',none⟩) 2 cg,.slice As (Yh m0 P0 l0).length cs,.slice none 0 0] 35 from BlkB.alloc (heap_alloc_new w1 _) _);have HB2:=jq hb2;clear hb2 hrs oL oG oS;go_wp2_with fail
 refine hEQ.out.mono ?_;rintro e w3 ⟨rfl,hb3⟩;obtain⟨k0,k1,k2,k3⟩:=HGX.out w3 (HB2.out.trans (hb3.mono HB2.out.size))
 have HR3:=jq (HRB.out.here hb3);have r0_:=HR3.out.cell 0 rfl;have r1_:=HR3.out.cell 1 rfl;have HBW:=jq (HB.out.trans ((hb1.trans (HB2.out.trans (hb3.mono HB2.out.size) |>.mono hb1.size)).mono HB.out.size));clear hb3 hb1;go_wp2_with fail
 first|go_ret|skip
 exact⟨rfl,HBW.out⟩
end
end Go.Proofs.YtpnncoinlopndaaGreatDoor
