/- . -/
import Derived.Test.YtpnncoinlopndaaGreatDoorQGMp24
import Derived.Test.YtpnncoinlopndaaGreatDoorQGMp26
import Derived.Test.YtpnncoinlopndaaGreatDoorQGMp46
set_option maxRecDepth 20000
set_option maxHeartbeats 2000000
namespace Go.Proofs.YtpnncoinlopndaaGreatDoor
open Go.Lib renaming hid→jq
section
open Go.RowKit Go.Shelf
theorem ZeI(f:Fr)(w:World)(hf:f.Sz 20000)(h0:0<=f.rat):Calls Tryz.prog 184 #[QC f] w (Qg f w):=by
 have HC:=jq (fun W=>Xd f ⟨[],[]⟩ W hf ⟨by simp,by simp⟩);rw[show(⟨[],[]⟩:Fr).rat=0 from Zbk] at HC;have hlt:=ZbG f.rat 0;rw[decide_eq_false (Rat.not_lt.2 h0)] at hlt;have HPO:=jq (show Qg f w=fun e w'=>e=.returned (QC f)/\Below w.1.size w w' from rfl);generalize Qg f w=post at*;have HK:∀W,Below w.1.size w W->BlkB W w.1.size #[.string ⟨f.n.toArray⟩,.string ⟨f.d.toArray⟩] 26->True:=fun _ _ _=>trivial
 clear HK;have hbA:=((Below.refl w.1.size w).alloc (Nat.le_refl _) (.cells #[.string ⟨f.n.toArray⟩,.string ⟨f.d.toArray⟩] 26)).alloc (by simp) (.cells #[.string ⟨#[]⟩,.string ⟨#[]⟩] 26);have hb0:BlkB ((w.alloc (.cells #[.string ⟨f.n.toArray⟩,.string ⟨f.d.toArray⟩] 26)).alloc (.cells #[.string ⟨#[]⟩,.string ⟨#[]⟩] 26)) w.1.size #[.string ⟨f.n.toArray⟩,.string ⟨f.d.toArray⟩] 26:=BlkB.alloc (heap_alloc_new w _) _
 have hb1:BlkB ((w.alloc (.cells #[.string ⟨f.n.toArray⟩,.string ⟨f.d.toArray⟩] 26)).alloc (.cells #[.string ⟨#[]⟩,.string ⟨#[]⟩] 26)) (w.1.size+1) #[.string ⟨#[]⟩,.string ⟨#[]⟩] 26:=by
  have h:=heap_alloc_new (w.alloc (.cells #[.string ⟨f.n.toArray⟩,.string ⟨f.d.toArray⟩] 26)) (.cells #[.string ⟨#[]⟩,.string ⟨#[]⟩] 26);rw[show(w.alloc (.cells #[.string ⟨f.n.toArray⟩,.string ⟨f.d.toArray⟩] 26)).heap.size=w.1.size+1 by simp] at h;exact h
 have c0:=hb0.cell 0 rfl;have c1:=hb0.cell 1 rfl;have HBA:=jq hbA;have HB0:=jq hb0;have HB1:=jq hb1;clear hbA hb0 hb1 hf h0;generalize Xe f.rat 0=z at*;unfold Qq QC at*
 unfold S at*
 go_enter Tryz.func184,Tryz.ntmps184
 go_wp2_with fail
 generalize ((w.alloc (.cells #[.string ⟨f.n.toArray⟩,.string ⟨f.d.toArray⟩] 26)).alloc (.cells #[.string ⟨#[]⟩,.string ⟨#[]⟩] 26))=W at*;refine(HC.out _).mono ?_;rintro e w1 ⟨rfl,hb⟩;have B0:=HB0.out.here hb;have B1:=HB1.out.here hb;have d0:=B0.cell 0 rfl;have d1:=B0.cell 1 rfl;have e0:=B1.cell 0 rfl;have e1:=B1.cell 1 rfl;have f0:=B1.frozen 0;have f1:=B1.frozen 1;have HB9:=jq (HBA.out.trans (hb.mono HBA.out.size));clear c0 c1 hb B0 B1;go_wp2_with fail
 refine bodyPost_ret (v:=.agg #[.string ⟨f.n.toArray⟩,.string ⟨f.d.toArray⟩]) (by simp[results,Tryz.results184,go_sem,e0,e1]) rfl ?_;rw[HPO.out];exact⟨rfl,(HB9.out.setCell (p:=⟨w.1.size+1,0,none⟩) (by simp only;omega) _).setCell (p:=⟨w.1.size+1,1,none⟩) (by simp only;omega) _⟩
theorem ZhQ(t:List UInt8)(A:Option Addr)(n c:Nat)(ws:List (List UInt8))(w:World)(hs:XA w w.1.size A n ws)(ht:t.length<=1000)(hl:∀x∈ws,x.length<=1000)(hn:n<=1000)(hok:Xa t ws=0):
 Calls Tryz.prog 183 #[S t,.slice A n c] w (Zfm t ws n w):=by
 have HPO:=jq (show Zfm t ws n w=fun e w'=>∃A' c',e=.returned (.tuple #[.slice A' n c',.int .i64 0])/\Own F2 2 26 w' w.1.size (.slice A' n c') (idl t ws)/\Below w.1.size w w' from rfl);generalize Zfm t ws n w=post at*
 have hS:Qw ws≠0:=by
  unfold Xa at hok;intro h;rw[if_pos h] at hok
  revert hok
  repeat' split
  all_goals decide
 have hwn:=hs.1
 have hsl:(Qa (Qw ws)).length<=1005:=by
  have h:=YP (ws:=ws) (L:=1000) hl (by omega) ws.length;rw[List.take_length] at h;omega
 have HCK:=jq (fun W (hb:Below w.1.size w W)=>ZgL t A n c ws W (hs.here hb) (by omega) (fun x hx=>by have:=hl x hx;omega) (by omega));rw[hok] at HCK;have HWH:=jq (fun W (hb:Below w.1.size w W)=>JD A n c ws W (hs.here hb) (fun x hx=>by have:=hl x hx;omega) (by omega));have HMU:=jq (fun x (hx:x∈ws) W=>Yb t x W (by omega) (by have:=hl x hx;omega))
 have HNW:=jq (fun x (hx:x∈ws) W=>ZdQ ⟨Qa (val t*val x),Qa (Qw ws)⟩ W ⟨by
  have:=ZeU (L:=1000) ht (hl x hx)
  show(Qa _).length<=_
  omega,by show(Qa _).length<=_;omega⟩)
 have HNL:=jq (show ∀x,ZcP ⟨Qa (val t*val x),Qa (Qw ws)⟩=(Qf (Rat.divInt (val t*val x) (Qw ws)),0) from fun x=>by
  unfold ZcP;have hd:val (Qa (Qw ws))≠0:=by rw[Qc];exact hS
  rw[if_neg hd];unfold Fr.rat Fr.dv;rw[if_neg hd];simp only[Qc])
 simp only[HNL.out] at HNW;obtain⟨g,hg⟩:∃g:List UInt8->Fr,g=fun x=>Qf (Rat.divInt (val t*val x) (Qw ws)):=⟨_,rfl⟩
 have HID:=jq (show idl t ws=ws.map g from by rw[hg];rfl);have HG:=jq (fun x=>show Qf (Rat.divInt (val t*val x) (Qw ws))=g x by rw[hg]);simp only[HG.out] at HNW;generalize idl t ws=il at*;generalize Qa (Qw ws)=ts at*;have HS:=jq hs;have HN:=jq (show n=ws.length from hwn);have HB0:=jq (Below.refl w.1.size w);have HN1:=jq hn;clear hs ht hl hn hok hS hwn hsl hg HNL HG;unfold Qq at HCK;unfold Qh S at HWH HMU;unfold ZaE QC S at HNW;unfold S;go_enter Tryz.func183,Tryz.ntmps183
 go_wp2_with fail
 refine(HCK.out _ HB0.out).mono ?_;rintro e w1 ⟨rfl,hb⟩;replace HB0:=jq hb;clear hb;go_wp2_with fail
 refine(HWH.out _ HB0.out).mono ?_;rintro e w2 ⟨rfl,hb⟩;have HB2:=jq (HB0.out.trans (hb.mono HB0.out.size));clear hb HB0;go_wp2_with fail
 go_loopw [8,9,10,11] (fun s j _ _ wr=>∃(k:Nat) (A3:Option Addr) (c3:Nat),k<=n/\j=.int .i64 k/\s=.slice A3 k c3/\Hid (Own F2 2 26 wr w.1.size (.slice A3 k c3) ((ws.take k).map g))/\Hid (Below w.1.size w wr)) (fun _ j _ _ _=>n-(intOf j).toNat)
 case atStart=>exact⟨0,none,0,Nat.zero_le _,rfl,rfl,Own.nil,HB2⟩
 case round=>
  clear HB2;obtain⟨k,A3,c3,hk,rfl,rfl,HOW,HBR⟩:=hrel
  by_cases hlt:k<n
  ·obtain⟨b,off,x,rfl,hb,hx,d0⟩:=(HS.out.below HBR.out).st hlt
   have hxm:=List.mem_of_getElem? hx
   have HTK:=jq (show(ws.take (k+1)).map g=(ws.take k).map g++[g x] by
    obtain⟨h1,h2⟩:=List.getElem?_eq_some_iff.1 hx
    rw[List.take_succ_eq_append_getElem h1,h2,List.map_append];rfl)
   have HM1:=jq (HMU.out x hxm);have HN2:=jq (HNW.out x hxm);have HKN:=jq (show((ws.take k).map g).length=k by rw[List.length_map,List.length_take];have:=HN.out;omega);generalize (ws.take k).map g=kl at*;generalize Qa (val t*val x)=tm at*;generalize g x=fx at*;clear hx hxm hk;have hk1:=HN1.out;go_wp2_with fail
   refine(HM1.out _).mono ?_;rintro e w3 ⟨rfl,hb3⟩;have HB3:=jq (HBR.out.trans (hb3.mono HBR.out.size));have HO3:=jq (HOW.out.below hb3);clear hb3 d0;go_wp2_with fail
   refine(HN2.out _).mono ?_;rintro e w4 ⟨rfl,hb4⟩;have HB4:=jq ((HB3.out.trans (hb4.mono HB3.out.size)).alloc (Nat.le_trans HB3.out.size hb4.size) (.cells #[.string ⟨fx.n.toArray⟩,.string ⟨fx.d.toArray⟩] 26));have HO4:=jq ((HO3.out.below hb4).alloc (.cells #[.string ⟨fx.n.toArray⟩,.string ⟨fx.d.toArray⟩] 26));have hbk:BlkB (w4.alloc (.cells #[.string ⟨fx.n.toArray⟩,.string ⟨fx.d.toArray⟩] 26)) w4.1.size #[.string ⟨fx.n.toArray⟩,.string ⟨fx.d.toArray⟩] 26:=heap_alloc_new w4 _;have k0:=hbk.cell 0 rfl;have k1:=hbk.cell 1 rfl;clear hb4 hbk HB3 HO3;go_upto_region 10 with (fail)
   generalize (w4.alloc _)=W4 at*;have HA2:=jq (HB4.out.alloc HB4.out.size (.cells #[.string ⟨fx.n.toArray⟩,.string ⟨fx.d.toArray⟩] 26));have HO5:=jq (HO4.out.alloc (.cells #[.string ⟨fx.n.toArray⟩,.string ⟨fx.d.toArray⟩] 26));have HL1:=jq (ZnT (show BlkB (W4.alloc (.cells #[.string ⟨fx.n.toArray⟩,.string ⟨fx.d.toArray⟩] 26)) W4.1.size #[.string ⟨fx.n.toArray⟩,.string ⟨fx.d.toArray⟩] 26 from heap_alloc_new W4 _))
   go_wp2_with (at_builtin;refine Qt _ rfl (.tmp 37) (.tmp 39) _ rfl Zmr Zhr Zmq (base:=w.1.size) (.slice A3 _ c3) kl rfl HO5.out _ _ 1 1 [fx] rfl HL1.out (by rw[HKN.out];omega) HA2.out.size ?_
                intro A4 c4 w6 ho4 hg4 _)
   go_roundw
   case rel=>
    rw[HKN.out] at ho4;exact⟨k+1,A4,c4,by omega,by go_num,by rw[HKN.out],(show Own _ _ _ _ _ _ _ by rw[HTK.out];exact ho4),Qm HA2.out hg4 HA2.out.size (fun g hg=>Zmp HO5.out hg)⟩
   case measure=>simp[intOf];omega
  ·obtain rfl:k=n:=by omega
   have HE:=jq (show(ws.take k).map g=ws.map g by rw[List.take_of_length_le (by have:=HN.out;omega)]);go_wp2_with fail
   first|go_ret|skip
   rw[HPO.out,HID.out];rw[HE.out] at HOW;exact⟨A3,c3,rfl,HOW.out,HBR.out⟩
end
end Go.Proofs.YtpnncoinlopndaaGreatDoor
