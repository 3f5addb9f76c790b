/- Rq4, Ls0, Rp0, Rp5, Pr1, Rp6. -/
import Derived.Test.YtpnncoinlopndaaGreatDoorQGSm21
import Derived.Test.YtpnncoinlopndaaGreatDoorQGSm13
set_option maxRecDepth 20000
set_option maxHeartbeats 2000000
namespace Go.Proofs.YtpnncoinlopndaaGreatDoor
open Go.Lib renaming hid→hdz
section
open Go.RowKit Go.Shelf
theorem Zgp(f:Fr)(w:World)(hf:f.Sz 20000)(h0:0≤f.rat):Calls Tryz.prog 184 #[FrV f] w (FracPost f w):=by
 have HC:=hdz (fun W=>Zat f ⟨[],[]⟩ W hf ⟨by simp,by simp⟩)
 rw[show(⟨[],[]⟩:Fr).rat=0 from ZdM] at HC
 have hlt:=Zer f.rat 0
 rw[decide_eq_false (Rat.not_lt.2 h0)] at hlt
 have HPO:=hdz (show FracPost f w=fun e w'=>e=.returned (FrV f)∧Below w.heap.size w w' from rfl)
 generalize FracPost f w=post at*
 have HK:∀W,Below w.heap.size w W→BlkB W w.heap.size #[.string ⟨f.n.toArray⟩,.string ⟨f.d.toArray⟩] 26→True:=fun _ _ _=>trivial
 clear HK
 have hbA:=((Below.refl w.heap.size w).alloc (Nat.le_refl _) (.cells #[.string ⟨f.n.toArray⟩,.string ⟨f.d.toArray⟩] 26)).alloc (by simp) (.cells #[.string ⟨#[]⟩,.string ⟨#[]⟩] 26)
 have hb0:BlkB ((w.alloc (.cells #[.string ⟨f.n.toArray⟩,.string ⟨f.d.toArray⟩] 26)).alloc (.cells #[.string ⟨#[]⟩,.string ⟨#[]⟩] 26)) w.heap.size #[.string ⟨f.n.toArray⟩,.string ⟨f.d.toArray⟩] 26:=BlkB.alloc (heap_alloc_new w _) _
 have hb1:BlkB ((w.alloc (.cells #[.string ⟨f.n.toArray⟩,.string ⟨f.d.toArray⟩] 26)).alloc (.cells #[.string ⟨#[]⟩,.string ⟨#[]⟩] 26)) (w.heap.size+1) #[.string ⟨#[]⟩,.string ⟨#[]⟩] 26:=by
  have h:=heap_alloc_new (w.alloc (.cells #[.string ⟨f.n.toArray⟩,.string ⟨f.d.toArray⟩] 26)) (.cells #[.string ⟨#[]⟩,.string ⟨#[]⟩] 26)
  rw[show(w.alloc (.cells #[.string ⟨f.n.toArray⟩,.string ⟨f.d.toArray⟩] 26)).heap.size=w.heap.size+1 by simp] at h
  exact h
 have c0:=hb0.cell 0 rfl;have c1:=hb0.cell 1 rfl
 have HBA:=hdz hbA;have HB0:=hdz hb0;have HB1:=hdz hb1
 clear hbA hb0 hb1 hf h0
 generalize cmpR f.rat 0=z at*
 unfold CmpIPost FrV at*
 unfold S at*
 go_enter Tryz.func184,Tryz.ntmps184
 go_wp2_with fail
 generalize ((w.alloc (.cells #[.string ⟨f.n.toArray⟩,.string ⟨f.d.toArray⟩] 26)).alloc (.cells #[.string ⟨#[]⟩,.string ⟨#[]⟩] 26))=W at*
 refine(HC.out _).mono ?_
 rintro e w1 ⟨rfl,hb⟩
 have B0:=HB0.out.here hb;have B1:=HB1.out.here hb
 have d0:=B0.cell 0 rfl;have d1:=B0.cell 1 rfl;have e0:=B1.cell 0 rfl;have e1:=B1.cell 1 rfl;have f0:=B1.frozen 0;have f1:=B1.frozen 1
 have HB9:=hdz (HBA.out.trans (hb.mono HBA.out.size))
 clear c0 c1 hb B0 B1
 go_wp2_with fail
 refine bodyPost_ret (v:=.agg #[.string ⟨f.n.toArray⟩,.string ⟨f.d.toArray⟩]) (by simp[results,Tryz.results184,go_sem,e0,e1]) rfl ?_
 rw[HPO.out]
 exact⟨rfl,(HB9.out.setCell (p:=⟨w.heap.size+1,0,none⟩) (by simp only;omega) _).setCell (p:=⟨w.heap.size+1,1,none⟩) (by simp only;omega) _⟩
theorem ZiL(t:List UInt8)(A:Option Addr)(n c:Nat)(ws:List (List UInt8))(w:World)(hs:Strs w w.heap.size A n ws)(ht:t.length≤1000)(hl:∀x∈ws,x.length≤1000)(hn:n≤1000)(hok:splitC t ws=0):
 Calls Tryz.prog 183 #[S t,.slice A n c] w (IdPost t ws n w):=by
 have HPO:=hdz (show IdPost t ws n w=fun e w'=>∃A' c',e=.returned (.tuple #[.slice A' n c',.int .i64 0])∧Own F2 2 26 w' w.heap.size (.slice A' n c') (idl t ws)∧Below w.heap.size w w' from rfl)
 generalize IdPost t ws n w=post at*
 have hS:sumV ws≠0:=by
  unfold splitC at hok
  intro h
  rw[if_pos h] at hok
  revert hok
  repeat' split
  all_goals decide
 have hwn:=hs.1
 have hsl:(txtL (sumV ws)).length≤1005:=by
  have h:=Zbb (ws:=ws) (L:=1000) hl (by omega) ws.length
  rw[List.take_length] at h
  omega
 have HCK:=hdz (fun W (hb:Below w.heap.size w W)=>Zg6 t A n c ws W (hs.here hb) (by omega) (fun x hx=>by have:=hl x hx;omega) (by omega))
 rw[hok] at HCK
 have HWH:=hdz (fun W (hb:Below w.heap.size w W)=>ZbN A n c ws W (hs.here hb) (fun x hx=>by have:=hl x hx;omega) (by omega))
 have HMU:=hdz (fun x (hx:x∈ws) W=>ZaY t x W (by omega) (by have:=hl x hx;omega))
 have HNW:=hdz (fun x (hx:x∈ws) W=>ZfG ⟨txtL (val t*val x),txtL (sumV ws)⟩ W ⟨by
  have:=ZgJ (L:=1000) ht (hl x hx)
  show(txtL _).length≤_
  omega,by show(txtL _).length≤_;omega⟩)
 have HNL:=hdz (show ∀x,newR ⟨txtL (val t*val x),txtL (sumV ws)⟩=(frOf (Rat.divInt (val t*val x) (sumV ws)),0) from fun x=>by
  unfold newR
  have hd:val (txtL (sumV ws))≠0:=by rw[Zaa];exact hS
  rw[if_neg hd]
  unfold Fr.rat Fr.dv
  rw[if_neg hd]
  simp only[Zaa])
 simp only[HNL.out] at HNW
 obtain⟨g,hg⟩:∃g:List UInt8→Fr,g=fun x=>frOf (Rat.divInt (val t*val x) (sumV ws)):=⟨_,rfl⟩
 have HID:=hdz (show idl t ws=ws.map g from by rw[hg];rfl)
 have HG:=hdz (fun x=>show frOf (Rat.divInt (val t*val x) (sumV ws))=g x by rw[hg])
 simp only[HG.out] at HNW
 generalize idl t ws=il at*
 generalize txtL (sumV ws)=ts at*
 have HS:=hdz hs;have HN:=hdz (show n=ws.length from hwn);have HB0:=hdz (Below.refl w.heap.size w);have HN1:=hdz hn
 clear hs ht hl hn hok hS hwn hsl hg HNL HG
 unfold CmpIPost at HCK
 unfold StrPost S at HWH HMU
 unfold QuoPost FrV S at HNW
 unfold S
 go_enter Tryz.func183,Tryz.ntmps183
 go_wp2_with fail
 refine(HCK.out _ HB0.out).mono ?_
 rintro e w1 ⟨rfl,hb⟩
 replace HB0:=hdz hb
 clear hb
 go_wp2_with fail
 refine(HWH.out _ HB0.out).mono ?_
 rintro e w2 ⟨rfl,hb⟩
 have HB2:=hdz (HB0.out.trans (hb.mono HB0.out.size))
 clear hb HB0
 go_wp2_with fail
 go_loopw [8,9,10,11] (fun s j _ _ wr=>∃(k:Nat) (A3:Option Addr) (c3:Nat),k≤n∧j=.int .i64 k∧s=.slice A3 k c3∧Hid (Own F2 2 26 wr w.heap.size (.slice A3 k c3) ((ws.take k).map g))∧Hid (Below w.heap.size w wr)) (fun _ j _ _ _=>n-(intOf j).toNat)
 case atStart=>exact⟨0,none,0,Nat.zero_le _,rfl,rfl,Own.nil,HB2⟩
 case round=>
  clear HB2
  obtain⟨k,A3,c3,hk,rfl,rfl,HOW,HBR⟩:=hrel
  by_cases hlt:k<n
  ·obtain⟨b,off,x,rfl,hb,hx,d0⟩:=(HS.out.below HBR.out).st hlt
   have hxm:=List.mem_of_getElem? hx
   have HTK:=hdz (show(ws.take (k+1)).map g=(ws.take k).map g++[g x] by
    obtain⟨h1,h2⟩:=List.getElem?_eq_some_iff.1 hx
    rw[List.take_succ_eq_append_getElem h1,h2,List.map_append]
    rfl)
   have HM1:=hdz (HMU.out x hxm)
   have HN2:=hdz (HNW.out x hxm)
   have HKN:=hdz (show((ws.take k).map g).length=k by rw[List.length_map,List.length_take];have:=HN.out;omega)
   generalize (ws.take k).map g=kl at*
   generalize txtL (val t*val x)=tm at*
   generalize g x=fx at*
   clear hx hxm hk
   have hk1:=HN1.out
   go_wp2_with fail
   refine(HM1.out _).mono ?_
   rintro e w3 ⟨rfl,hb3⟩
   have HB3:=hdz (HBR.out.trans (hb3.mono HBR.out.size))
   have HO3:=hdz (HOW.out.below hb3)
   clear hb3 d0
   go_wp2_with fail
   refine(HN2.out _).mono ?_
   rintro e w4 ⟨rfl,hb4⟩
   have HB4:=hdz ((HB3.out.trans (hb4.mono HB3.out.size)).alloc (Nat.le_trans HB3.out.size hb4.size) (.cells #[.string ⟨fx.n.toArray⟩,.string ⟨fx.d.toArray⟩] 26))
   have HO4:=hdz ((HO3.out.below hb4).alloc (.cells #[.string ⟨fx.n.toArray⟩,.string ⟨fx.d.toArray⟩] 26))
   have hbk:BlkB (w4.alloc (.cells #[.string ⟨fx.n.toArray⟩,.string ⟨fx.d.toArray⟩] 26)) w4.heap.size #[.string ⟨fx.n.toArray⟩,.string ⟨fx.d.toArray⟩] 26:=heap_alloc_new w4 _
   have k0:=hbk.cell 0 rfl;have k1:=hbk.cell 1 rfl
   clear hb4 hbk HB3 HO3
   go_upto_region 10 with (fail)
   generalize (w4.alloc _)=W4 at*
   have HA2:=hdz (HB4.out.alloc HB4.out.size (.cells #[.string ⟨fx.n.toArray⟩,.string ⟨fx.d.toArray⟩] 26))
   have HO5:=hdz (HO4.out.alloc (.cells #[.string ⟨fx.n.toArray⟩,.string ⟨fx.d.toArray⟩] 26))
   have HL1:=hdz (Zn8 (show BlkB (W4.alloc (.cells #[.string ⟨fx.n.toArray⟩,.string ⟨fx.d.toArray⟩] 26)) W4.heap.size #[.string ⟨fx.n.toArray⟩,.string ⟨fx.d.toArray⟩] 26 from heap_alloc_new W4 _))
   go_wp2_with (at_builtin;refine Zap _ rfl (.tmp 37) (.tmp 39) _ rfl ZmY ZjD ZmX (base:=w.heap.size) (.slice A3 _ c3) kl rfl HO5.out _ _ 1 1 [fx] rfl HL1.out (by rw[HKN.out];omega) HA2.out.size ?_
                intro A4 c4 w6 ho4 hg4 _)
   go_roundw
   case rel=>
    rw[HKN.out] at ho4
    exact⟨k+1,A4,c4,by omega,by go_num,by rw[HKN.out],(show Own _ _ _ _ _ _ _ by rw[HTK.out];exact ho4),Zae HA2.out hg4 HA2.out.size (fun g hg=>ZmW HO5.out hg)⟩
   case measure=>simp[intOf];omega
  ·obtain rfl:k=n:=by omega
   have HE:=hdz (show(ws.take k).map g=ws.map g by rw[List.take_of_length_le (by have:=HN.out;omega)])
   go_wp2_with fail
   first|go_ret|skip
   rw[HPO.out,HID.out]
   rw[HE.out] at HOW
   exact⟨A3,c3,rfl,HOW.out,HBR.out⟩
end
section
open Go.RowKit Go.Shelf
theorem Zgq{a b c:Rat}(h1:a<b)(h2:b≤c):a<c:=by
 rw[←Rat.not_le]
 intro h3
 exact absurd (Rat.le_trans h2 h3) (Rat.not_le.2 h1)
def bestTo(rs:List Rat):Nat→Nat
 |0=>0
 |k+1=>if rs.getD (bestTo rs k) 0<rs.getD k 0 then k else bestTo rs k
def bestL(rs:List Rat):Nat:=bestTo rs rs.length
theorem Zj8{rs:List Rat}{j:Nat}(hj:j<rs.length)(h1:∀i,i<j→rs.getD i 0<rs.getD j 0)(h2:∀i,j≤i→i<rs.length→rs.getD i 0≤rs.getD j 0):
 ∀k,k≤rs.length→(j<k→bestTo rs k=j)∧(k≤j→bestTo rs k<k∨k=0):=by
 intro k
 induction k with
 |zero=>exact fun _=>⟨fun h=>by omega,fun _=>.inr rfl⟩
 |succ k ih=>
  intro hk
  obtain⟨a,b⟩:=ih (by omega)
  constructor
  ·intro hjk
   unfold bestTo
   rcases Nat.lt_or_ge j k with h|h
   ·rw[a h,if_neg]
    exact Rat.not_lt.2 (h2 k (by omega) (by omega))
   ·have e:j=k:=by omega
    subst e
    rcases b (Nat.le_refl _) with h3|h3
    ·rw[if_pos (h1 _ h3)]
    ·subst h3
     unfold bestTo
     split<;>rfl
  ·intro hjk
   unfold bestTo
   split
   ·exact .inl (by omega)
   ·rcases b (by omega) with h3|h3
    ·exact .inl (by omega)
    ·subst h3;exact .inl (by unfold bestTo;omega)
theorem ZlD{rs:List Rat}{j:Nat}(hj:j<rs.length)(h1:∀i,i<j→rs.getD i 0<rs.getD j 0)(h2:∀i,j≤i→i<rs.length→rs.getD i 0≤rs.getD j 0):bestL rs=j:=
 (Zj8 hj h1 h2 rs.length (Nat.le_refl _)).1 hj
def rsOf(S:Int)(rs:List Int)(T:List Nat):List Rat:=rs.mapIdx fun i r=>if i∈T then Rat.divInt r S-1 else Rat.divInt r S
theorem Zbw{S:Int}{rs:List Int}{T:List Nat}{i:Nat}(hi:i<rs.length):(rsOf S rs T).getD i 0=if i∈T then Rat.divInt (rs.getD i 0) S-1 else Rat.divInt (rs.getD i 0) S:=by
 unfold rsOf
 rw[List.getD_eq_getElem?_getD,List.getElem?_mapIdx,List.getElem?_eq_getElem hi,List.getD_eq_getElem?_getD,List.getElem?_eq_getElem hi]
 rfl
theorem Zb1(S:Int)(rs:List Int)(T:List Nat):(rsOf S rs T).length=rs.length:=by simp[rsOf]
theorem Zey{S r:Int}(hS:0<S)(h:r<S):Rat.divInt r S-1<0:=by
 have e:Rat.divInt r S-1=Rat.divInt (r-S) S:=by
  rw[show(1:Rat)=Rat.divInt 1 1 from rfl,Rat.divInt_sub_divInt _ _ (by omega) (by omega)]
  congr 1<;>omega
 rw[e,show(0:Rat)=Rat.divInt 0 1 from rfl,Zbk _ _ hS (by omega)]
 omega
theorem ZcG{S r:Int}(hS:0<S)(h:0≤r):0≤Rat.divInt r S:=by
 rw[←Rat.not_lt,show(0:Rat)=Rat.divInt 0 1 from rfl,Zbk _ _ hS (by omega)]
 omega
theorem Zfa{S:Int}{rs:List Int}(hS:0<S)(hr:∀r∈rs,0≤r∧r<S){k:Nat}(hk:k<rs.length):bestL (rsOf S rs ((ordL rs).take k))=(ordL rs)[k]'(by rw[Zaw];exact hk):=by
 have hkl:k<(ordL rs).length:=by rw[Zaw];exact hk
 generalize hj:(ordL rs)[k]=j
 have hjm:j∈ordL rs:=by rw[←hj];exact List.getElem_mem _
 have hjl:j<rs.length:=Zcn.1 hjm
 have hbd:∀i,i<rs.length→0≤rs.getD i 0∧rs.getD i 0<S:=by
  intro i hi
  rw[List.getD_eq_getElem?_getD,List.getElem?_eq_getElem hi]
  exact hr _ (List.getElem_mem hi)
 have hnot:j ∉ (ordL rs).take k:=by
  intro hin
  obtain⟨l,hl,e⟩:=List.getElem_of_mem hin
  rw[List.getElem_take] at e
  have hlk:l<k:=by rw[List.length_take] at hl;omega
  have:=List.pairwise_iff_getElem.1 (ZbJ rs) l k (by omega) hkl hlk
  exact this (e.trans hj.symm)
 have hafter:∀i,i<rs.length→i ∉ (ordL rs).take k→befB rs j i=true:=by
  intro i hi hin
  obtain⟨l,hl,e⟩:=List.getElem_of_mem (Zcn.2 hi)
  have hkl2:k≤l:=by
   rcases Nat.lt_or_ge l k with h|h
   ·exfalso
    apply hin
    rw[←e]
    rw[List.mem_take_iff_getElem]
    exact⟨l,by omega,rfl⟩
   ·exact h
  rcases Nat.lt_or_eq_of_le hkl2 with h|h
  ·have:=List.pairwise_iff_getElem.1 (Zed rs) k l hkl hl h
   rwa [hj,e] at this
  ·subst h
   have:j=i:=hj.symm.trans e
   subst this
   have:=ZeU rs j j
   simpa using this
 refine ZlD (by rw[Zb1];exact hjl) ?_ ?_
 ·intro i hij
  have hi:i<rs.length:=by omega
  rw[Zbw hi,Zbw hjl,if_neg hnot]
  split
  ·exact Zgq (Zey hS (hbd i hi).2) (ZcG hS (hbd j hjl).1)
  ·rename_i hin
   have:=hafter i hi hin
   unfold befB at this
   simp only[decide_eq_true_eq] at this
   rw[Zbk _ _ hS hS]
   exact Int.mul_lt_mul_of_pos_right (by omega) hS
 ·intro i hji hi
  rw[Zb1] at hi
  rw[Zbw hi,Zbw hjl,if_neg hnot]
  split
  ·exact Rat.le_of_lt (Zgq (Zey hS (hbd i hi).2) (ZcG hS (hbd j hjl).1))
  ·rename_i hin
   have:=hafter i hi hin
   unfold befB at this
   simp only[decide_eq_true_eq] at this
   rw[←Rat.not_lt,Zbk _ _ hS hS]
   intro h
   have:=Int.lt_of_mul_lt_mul_right h (Int.le_of_lt hS)
   omega
theorem Zj9{S:Int}{rs:List Int}{k:Nat}(hk:k<rs.length){j:Nat}(hj:(ordL rs)[k]'(by rw[Zaw];exact hk)=j):(rsOf S rs ((ordL rs).take k)).set j ((rsOf S rs ((ordL rs).take k)).getD j 0-1)=rsOf S rs ((ordL rs).take (k+1)):=by
 have hkl:k<(ordL rs).length:=by rw[Zaw];exact hk
 have hjl:j<rs.length:=Zcn.1 (by rw[←hj];exact List.getElem_mem _)
 have hnot:j ∉ (ordL rs).take k:=by
  intro hin
  obtain⟨l,hl,e⟩:=List.getElem_of_mem hin
  rw[List.getElem_take] at e
  have hlk:l<k:=by rw[List.length_take] at hl;omega
  exact List.pairwise_iff_getElem.1 (ZbJ rs) l k (by omega) hkl hlk (e.trans hj.symm)
 have hm:∀i,i∈(ordL rs).take (k+1)↔i∈(ordL rs).take k∨i=j:=by
  intro i
  rw[List.take_succ_eq_append_getElem hkl,hj]
  simp
 refine List.ext_getElem? fun i=> ?_
 rw[List.getElem?_set]
 by_cases hi:i<rs.length
 ·have e1:(rsOf S rs ((ordL rs).take k))[i]?=some ((rsOf S rs ((ordL rs).take k)).getD i 0):=by
   rw[List.getD_eq_getElem?_getD,List.getElem?_eq_getElem (by rw[Zb1];exact hi)];rfl
  have e2:(rsOf S rs ((ordL rs).take (k+1)))[i]?=some ((rsOf S rs ((ordL rs).take (k+1))).getD i 0):=by
   rw[List.getD_eq_getElem?_getD,List.getElem?_eq_getElem (by rw[Zb1];exact hi)];rfl
  rw[e2,Zbw hi]
  by_cases e:j=i
  ·subst e
   rw[if_pos rfl,if_pos (by rw[Zb1];exact hi),Zbw hi,if_neg hnot,if_pos ((hm j).2 (.inr rfl))]
  ·rw[if_neg e,e1,Zbw hi]
   congr 1
   by_cases hin:i∈(ordL rs).take k
   ·rw[if_pos hin,if_pos ((hm i).2 (.inl hin))]
   ·rw[if_neg hin,if_neg]
    rw[hm]
    rintro(h|h)
    ·exact hin h
    ·exact e h.symm
 ·rw[if_neg (fun e=>hi (by rw[←e];exact hjl)),List.getElem?_eq_none (by rw[Zb1];omega),List.getElem?_eq_none (by rw[Zb1];omega)]
def psOf(ps:List Int)(T:List Nat):List Int:=ps.mapIdx fun i b=>if i∈T then b+1 else b
theorem Zka{ps rs:List Int}(hl:ps.length=rs.length){k:Nat}(hk:k<rs.length){j:Nat}(hj:(ordL rs)[k]'(by rw[Zaw];exact hk)=j):(psOf ps ((ordL rs).take k)).set j ((psOf ps ((ordL rs).take k)).getD j 0+1)=psOf ps ((ordL rs).take (k+1)):=by
 have hkl:k<(ordL rs).length:=by rw[Zaw];exact hk
 have hjl:j<ps.length:=by rw[hl];exact Zcn.1 (by rw[←hj];exact List.getElem_mem _)
 have hnot:j ∉ (ordL rs).take k:=by
  intro hin
  obtain⟨l,hl,e⟩:=List.getElem_of_mem hin
  rw[List.getElem_take] at e
  have hlk:l<k:=by rw[List.length_take] at hl;omega
  exact List.pairwise_iff_getElem.1 (ZbJ rs) l k (by omega) hkl hlk (e.trans hj.symm)
 have hm:∀i,i∈(ordL rs).take (k+1)↔i∈(ordL rs).take k∨i=j:=by
  intro i
  rw[List.take_succ_eq_append_getElem hkl,hj]
  simp
 have hg:∀(T:List Nat) (i:Nat),(hi:i<ps.length)→(psOf ps T)[i]?=some (if i∈T then ps[i]+1 else ps[i]):=by
  intro T i hi
  unfold psOf
  rw[List.getElem?_mapIdx,List.getElem?_eq_getElem hi]
  rfl
 have hlen:∀T,(psOf ps T).length=ps.length:=fun T=>by simp[psOf]
 refine List.ext_getElem? fun i=> ?_
 rw[List.getElem?_set]
 by_cases hi:i<ps.length
 ·by_cases e:j=i
  ·subst e
   rw[if_pos rfl,if_pos (by rw[hlen];exact hi),List.getD_eq_getElem?_getD,hg ((ordL rs).take k) j hi,hg ((ordL rs).take (k+1)) j hi,if_neg hnot,if_pos ((hm j).2 (.inr rfl))]
   rfl
  ·rw[if_neg e,hg _ i hi,hg _ i hi]
   congr 1
   by_cases hin:i∈(ordL rs).take k
   ·rw[if_pos hin,if_pos ((hm i).2 (.inl hin))]
   ·rw[if_neg hin,if_neg]
    rw[hm]
    rintro(h|h)
    ·exact hin h
    ·exact e h.symm
 ·rw[if_neg (fun e=>hi (by rw[←e];exact hjl)),List.getElem?_eq_none (by rw[hlen];omega),List.getElem?_eq_none (by rw[hlen];omega)]
end
section
open Go.RowKit Go.Shelf
theorem ZhR{α:Type}(l:List α)(z:α)(k:Nat){x:α}(hk:l[k]?=some x):(l.take k++List.replicate (l.length-k) z).set k x=l.take (k+1)++List.replicate (l.length-(k+1)) z:=by
 obtain⟨h,rfl⟩:=List.getElem?_eq_some_iff.1 hk
 have e:(l.take k).length=k:=by rw[List.length_take];omega
 rw[List.set_append_right _ _ (by omega),e,Nat.sub_self,show l.length-k=(l.length-(k+1))+1 by omega,List.replicate_succ,List.set_cons_zero,List.take_succ_eq_append_getElem h,List.append_assoc]
 rfl
theorem ZhS{α:Type}(l:List α)(z:α)(k:Nat)(hk:k<l.length):(l.take k++List.replicate (l.length-k) z)[k]?=some z:=by
 have e:(l.take k).length=k:=by rw[List.length_take];omega
 rw[List.getElem?_append_right (by omega),e,Nat.sub_self,List.getElem?_replicate,if_pos (by omega)]
def txA(l:List Int):Array Value:=(l.map fun x=>Value.string ⟨(txtL x).toArray⟩).toArray
theorem Zez{l:List Int}{i:Nat}{x:Int}(h:l[i]?=some x):(txA l)[i]?=some (.string ⟨(txtL x).toArray⟩):=by
 simp[txA,h]
theorem Zkb(l:List Int)(i:Nat)(y:Int):(txA l).setIfInBounds i (.string ⟨(txtL y).toArray⟩)=txA (l.set i y):=by
 unfold txA
 apply Array.ext'
 simp[List.map_set]
theorem ZhT(n:Nat):madeCells #[.string ⟨#[]⟩] n=txA (List.replicate n 0):=by
 apply Array.ext_getElem?
 intro i
 by_cases hi:i<n
 ·rw[Zez (x:=0) (by rw[List.getElem?_replicate,if_pos hi])]
  simp[madeCells,hi,Nat.mod_one]
  rfl
 ·rw[Array.getElem?_eq_none (by simp[madeCells];omega),Array.getElem?_eq_none (by simp[txA];omega)]
theorem ZfJ(l:List Int)(n:Nat)(hn:l.length=n):txA l=partA l n n:=by
 apply Array.ext_getElem?
 intro i
 by_cases hi:i<n
 ·rw[Zaq l n n i hi,if_pos hi,Zez (x:=l.getD i 0) (by simp[List.getD,show i<l.length by omega])]
 ·rw[Array.getElem?_eq_none (by simp[txA];omega),Array.getElem?_eq_none (by simp[partA];omega)]
def frA(l:List Rat):Array Value:=(l.flatMap fun q=>[Value.string ⟨(frOf q).n.toArray⟩,.string ⟨(frOf q).d.toArray⟩]).toArray
theorem Zg7(q:Rat):([Value.string ⟨(frOf q).n.toArray⟩,.string ⟨(frOf q).d.toArray⟩]:List Value).length=2:=rfl
theorem Zdi{l:List Rat}{i:Nat}{q:Rat}(h:l[i]?=some q):(frA l)[i*2]?=some (.string ⟨(frOf q).n.toArray⟩):=by
 unfold frA
 rw[List.getElem?_toArray,show i*2=i*2+0 from rfl]
 exact ZdK (k:=2) Zg7 l i 0 q _ h rfl
theorem Zdj{l:List Rat}{i:Nat}{q:Rat}(h:l[i]?=some q):(frA l)[i*2+1]?=some (.string ⟨(frOf q).d.toArray⟩):=by
 unfold frA
 rw[List.getElem?_toArray]
 exact ZdK (k:=2) Zg7 l i 1 q _ h rfl
theorem Zkc(l:List Rat)(i:Nat)(q:Rat):((frA l).setIfInBounds (i*2) (.string ⟨(frOf q).n.toArray⟩)).setIfInBounds (i*2+1) (.string ⟨(frOf q).d.toArray⟩)=frA (l.set i q):=by
 unfold frA
 apply Array.ext'
 simp only[Array.toList_setIfInBounds]
 induction l generalizing i with
 |nil=>simp
 |cons a l ih=>
  cases i with
  |zero=>simp
  |succ i=>
   have:=ih i
   simp only[List.flatMap_cons,List.set_cons_succ,List.cons_append,List.nil_append,show(i+1)*2=i*2+1+1 by omega]
   rw[this]
theorem ZlE(n:Nat):madeCells #[.string ⟨#[]⟩,.string ⟨#[]⟩] (n*2)=frA (List.replicate n 0):=by
 apply Array.ext_getElem?
 intro i
 by_cases hi:i<n*2
 ·have h2:i/2<n:=by omega
  have hg:(List.replicate n (0:Rat))[i/2]?=some 0:=by rw[List.getElem?_replicate,if_pos h2]
  rcases Nat.mod_two_eq_zero_or_one i with h|h
  ·have e:(frA (List.replicate n 0))[i]?=some (.string ⟨(frOf 0).n.toArray⟩):=by
    have:=Zdi hg
    rwa [show i/2*2=i by omega] at this
   rw[e,Zb9]
   simp[madeCells,hi,h,Fr.zero]
  ·have e:(frA (List.replicate n 0))[i]?=some (.string ⟨(frOf 0).d.toArray⟩):=by
    have:=Zdj hg
    rwa [show i/2*2+1=i by omega] at this
   rw[e,Zb9]
   simp[madeCells,hi,h,Fr.zero]
 ·rw[Array.getElem?_eq_none (by simp[madeCells];omega),Array.getElem?_eq_none]
  unfold frA
  rw[List.size_toArray,Zan Zg7,List.length_replicate]
  omega
end
section
open Go.RowKit Go.Shelf
def PSt(t:Int)(ws:List Int)(j:Nat):List Int:=psOf (baseL t ws) ((ordL (restL t ws)).take j)
def RSt(t:Int)(ws:List Int)(j:Nat):List Rat:=rsOf ws.sum (restL t ws) ((ordL (restL t ws)).take j)
theorem Zkd(t:Int)(ws:List Int)(j:Nat):(PSt t ws j).length=ws.length:=by simp[PSt,psOf,baseL]
theorem Zke(t:Int)(ws:List Int)(j:Nat):(RSt t ws j).length=ws.length:=by simp[RSt,rsOf,restL]
theorem ZlF(t:Int)(ws:List Int):PSt t ws 0=baseL t ws:=by
 unfold PSt psOf
 refine List.ext_getElem? fun i=> ?_
 simp
theorem ZlG(t:Int)(ws:List Int):RSt t ws 0=(restL t ws).map (fun r=>Rat.divInt r ws.sum):=by
 unfold RSt rsOf
 refine List.ext_getElem? fun i=> ?_
 simp
theorem ZlH(t:Int)(ws:List Int):PSt t ws (missL t ws).toNat=posL t ws:=rfl
theorem ZmZ{t:Int}{ws:List Int}(hS:0<ws.sum){j:Nat}(hj:j<ws.length):bestL (RSt t ws j)<ws.length:=by
 have hl:(restL t ws).length=ws.length:=by simp[restL]
 unfold RSt
 rw[Zfa hS (ZaR t hS) (by omega)]
 have:=Zcn.1 (List.getElem_mem (l:=ordL (restL t ws)) (n:=j) (by rw[Zaw];omega))
 omega
theorem Zm0{t:Int}{ws:List Int}(hS:0<ws.sum){j:Nat}(hj:j<ws.length):
 (PSt t ws j).set (bestL (RSt t ws j)) ((PSt t ws j).getD (bestL (RSt t ws j)) 0+1)=PSt t ws (j+1)∧(RSt t ws j).set (bestL (RSt t ws j)) ((RSt t ws j).getD (bestL (RSt t ws j)) 0-1)=RSt t ws (j+1):=by
 have hl:(restL t ws).length=ws.length:=by simp[restL]
 have hb:(baseL t ws).length=(restL t ws).length:=by simp[restL,baseL]
 unfold RSt PSt
 rw[Zfa hS (ZaR t hS) (by omega)]
 exact⟨Zka hb (by omega) rfl,Zj9 (by omega) rfl⟩
theorem Zkf{t:Int}{ws:List Int}(hS:0<ws.sum):(missL t ws).toNat≤ws.length:=by
 have h1:=Zba t hS
 have h2:(restL t ws).countP (fun r=>decide (0<r))≤(restL t ws).length:=List.countP_le_length
 have hl:(restL t ws).length=ws.length:=by simp[restL]
 omega
theorem ZcQ{t:Int}{ws:List Int}(h0:0≤t)(hw:∀w∈ws,0≤w)(hS:0<ws.sum):∀b∈baseL t ws,0≤b∧b≤t:=by
 intro b hb
 obtain⟨w,hwm,rfl⟩:=List.mem_map.1 hb
 have h1:=hw w hwm
 refine⟨Int.fdiv_nonneg (Int.mul_nonneg h0 h1) (Int.le_of_lt hS),?_⟩
 have h2:=Zdp hw hwm
 have h3:=Int.mul_fdiv_add_fmod (t*w) ws.sum
 have h4:=Int.fmod_nonneg_of_pos (t*w) hS
 have h5:t*w≤t*ws.sum:=Int.mul_le_mul_of_nonneg_left h2 h0
 rw[Int.mul_comm t ws.sum] at h5
 exact Int.le_of_mul_le_mul_left (by omega:ws.sum*(t*w).fdiv ws.sum≤ws.sum*t) hS
theorem ZnB{t:Int}{ws:List Int}(h0:0≤t)(hw:∀w∈ws,0≤w)(hS:0<ws.sum)(j i:Nat):0≤(PSt t ws j).getD i 0∧(PSt t ws j).getD i 0≤t+1:=by
 by_cases hi:i<(baseL t ws).length
 ·have hb:=ZcQ h0 hw hS _ (List.getElem_mem hi)
  have e:(PSt t ws j).getD i 0=if i∈(ordL (restL t ws)).take j then(baseL t ws)[i]+1 else(baseL t ws)[i]:=by
   unfold PSt psOf
   rw[List.getD_eq_getElem?_getD,List.getElem?_mapIdx,List.getElem?_eq_getElem hi]
   rfl
  rw[e]
  split<;>omega
 ·have e:(PSt t ws j).getD i 0=0:=by
   rw[List.getD_eq_getElem?_getD,List.getElem?_eq_none]
   ·rfl
   ·rw[Zkd]
    simp only[baseL,List.length_map] at hi
    omega
  omega
theorem Zg8(r:Int){S:Int}(hS:0<S):Rat.divInt r S-1=Rat.divInt (r-S) S:=by
 rw[show(1:Rat)=Rat.divInt 1 1 from rfl,Rat.divInt_sub_divInt _ _ (by omega) (by omega)]
 congr 1<;>omega
theorem ZnC{t:Int}{ws:List Int}{L:Nat}(hS:0<ws.sum)(hL:ws.sum.natAbs<10^L)(hL1:1≤L)(j i:Nat):RB L ((RSt t ws j).getD i 0):=by
 by_cases hi:i<(restL t ws).length
 ·have hb:=ZaR t hS _ (List.getElem_mem hi)
  have e:(restL t ws).getD i 0=(restL t ws)[i]:=by rw[List.getD_eq_getElem?_getD,List.getElem?_eq_getElem hi];rfl
  have hg:=Zbw (S:=ws.sum) (rs:=restL t ws) (T:=(ordL (restL t ws)).take j) hi
  unfold RSt
  rw[hg,e]
  split
  ·rw[Zg8 _ hS]
   exact RB.divInt (by omega) hL (by omega)
  ·exact RB.divInt (by omega) hL (by omega)
 ·have e:(RSt t ws j).getD i 0=0:=by
   rw[List.getD_eq_getElem?_getD,List.getElem?_eq_none]
   ·rfl
   ·rw[Zke]
    simp only[restL,List.length_map] at hi
    omega
  rw[e]
  have:1<10^L:=Nat.one_lt_pow (by omega) (by omega)
  exact⟨by show 0<_;omega,by show 1<_;omega⟩
theorem ZlI(t w:Int){S:Int}(hS:0<S):flo (Rat.divInt (t*w) S)=(t*w).fdiv S∧Rat.divInt (t*w) S-((flo (Rat.divInt (t*w) S):Int):Rat)=Rat.divInt ((t*w).fmod S) S:=by
 have h1:flo (Rat.divInt (t*w) S)=(t*w).fdiv S:=(ZdO _ _ (by omega)).symm
 refine⟨h1,?_⟩
 rw[h1,←Zay ((t*w).fdiv S),Rat.divInt_sub_divInt _ _ (by omega) (by omega)]
 have h3:=Int.mul_fdiv_add_fmod (t*w) S
 congr 1
 ·rw[Int.mul_one,Int.mul_comm _ S];omega
 ·omega
theorem Zkg{ws:List Int}(hw:∀w∈ws,0≤w)(hS:0<ws.sum):posL 0 ws=ws.map (fun _=>0):=by
 refine List.ext_getElem? fun i=> ?_
 by_cases hi:i<ws.length
 ·have hp:i<(posL 0 ws).length:=by rw[ZbX];exact hi
  have hb:=ZcM (Int.le_refl 0) hw hS (List.getElem?_eq_getElem hp) (List.getElem?_eq_getElem hi)
  have hs:=ZhE 0 hS
  have hz:=Zf7 (l:=posL 0 ws) (by
   intro x hx
   obtain⟨k,hk⟩:=List.getElem?_of_mem hx
   have hk2:=(List.getElem?_eq_some_iff.1 hk).1
   rw[ZbX] at hk2
   exact(ZcM (Int.le_refl 0) hw hS hk (List.getElem?_eq_getElem hk2)).1) hs
  rw[List.getElem?_eq_getElem hp,hz _ (List.getElem_mem hp)]
  simp[hi]
 ·rw[List.getElem?_eq_none (by rw[ZbX];omega),List.getElem?_eq_none (by simp;omega)]
end
section
open Go.RowKit Go.Shelf
section
variable {w W W':World} {bs:List (Nat×Array Value×TypeId)} {p:Nat} {cs:Array Value} {T:TypeId}
theorem Own.neBlk{α:Type}{enc:α→List Value}{k base:Nat}{e:TypeId}{x:Value}{xs:List α}(h:Own enc k e W base x xs)(hb:BlkB W p cs T)(hne:e≠T):x.ownBlock≠some p:=by
 rcases h.2 with ⟨rfl,_⟩|⟨g,cap,cur,rfl,_,hg,_⟩
 ·simp[Value.ownBlock]
 ·intro hh
  simp only[Value.ownBlock,Option.some.injEq] at hh
  subst hh
  unfold BlkB at hb
  rw[hg] at hb
  injection hb with hb
  injection hb with _ ht
  exact hne ht
theorem Own.farB{α:Type}{enc:α→List Value}{k base:Nat}{e:TypeId}{x:Value}{xs:List α}(h:Own enc k e W base x xs)(hb:BlkB W p cs T)(hne:e≠T)(j:Nat)(u:Value):Own enc k e (W.setCell ⟨p,j,none⟩ u) base x xs:=h.far (h.neBlk hb hne) u
theorem Own.farR{α:Type}{enc:α→List Value}{k base:Nat}{e:TypeId}{x:Value}{xs:List α}(h:Own enc k e W base x xs)(hb:BlkB W p cs T)(hne:e≠T)(ds:Array Value):Own enc k e (W.setRow p ds) base x xs:=by
 refine World.ownsRow.kept h (row:=some p) ⟨rfl,rfl,rfl,by simp[World.setRow],fun i _ hi=>setRow_other W p i ds (fun e=>hi (by rw[e]))⟩ (.inr (h.neBlk hb hne))
theorem Kp.row(h:Kp w bs W)(i:Nat)(hb:bs[i]?=some (p,cs,T))(ds:Array Value):Kp w (bs.set i (p,ds,T)) (W.setRow p ds):=by
 have hbl:Below w.heap.size W (W.setRow p ds):=⟨rfl,rfl,rfl,by simp[World.setRow],fun k hk=>setRow_other W p k ds (by have:=h.old i hb;omega)⟩
 have hm:(bs.set i (p,ds,T)).map (·.1)=bs.map (·.1):=by
  refine List.ext_getElem? fun k=> ?_
  rw[List.getElem?_map,List.getElem?_map,List.getElem?_set]
  split
  ·rename_i e
   subst e
   rw[hb]
   split
   ·rfl
   ·rename_i e2;exact absurd (List.getElem?_eq_some_iff.1 hb).1 e2
  ·rfl
 refine⟨h.pow,h.bl.trans hbl,?_,by rw[hm];exact h.ord,?_⟩
 ·intro b hx
  rcases List.mem_or_eq_of_mem_set hx with hx|rfl
  ·exact h.own b hx
  ·exact h.old i hb
 ·intro b hx
  obtain⟨k,hk⟩:=List.getElem?_of_mem hx
  rw[List.getElem?_set] at hk
  split at hk
  ·split at hk
   ·injection hk with hk
    subst hk
    exact(h.at_ i hb).row ds
   ·cases hk
  ·rename_i hik
   obtain⟨q,es,U⟩:=b
   exact(h.at_ k hk).farRow (h.ne k i hk hb (fun e=>hik e.symm)) ds
structure Pr (w:World) (Ao:Option Addr) (N co:Nat) (old:List Lot) (A1:Option Addr) (c1:Nat) (qs:List (List UInt8)) (A2:Option Addr) (c2:Nat) (ks:List (List UInt8)) (bs:List (Nat×Array Value×TypeId)) (W:World):Prop where
 k:Kp w bs W
 o:Own L7 7 54 W w.heap.size (.slice Ao N co) old
 q:Own S1 1 24 W w.heap.size (.slice A1 N c1) qs
 c:Own S1 1 24 W w.heap.size (.slice A2 N c2) ks
variable {Ao A1 A2:Option Addr} {N co c1 c2:Nat} {old:List Lot} {qs ks:List (List UInt8)}
theorem Pr.here(h:Pr w Ao N co old A1 c1 qs A2 c2 ks bs W)(hb:Below W.heap.size W W'):Pr w Ao N co old A1 c1 qs A2 c2 ks bs W':=⟨h.k.here hb,h.o.below hb,h.q.below hb,h.c.below hb⟩
theorem Pr.drew(h:Pr w Ao N co old A1 c1 qs A2 c2 ks bs W):Pr w Ao N co old A1 c1 qs A2 c2 ks bs W.drew:=h.here (Below.refl _ _).drew
theorem Pr.new(h:Pr w Ao N co old A1 c1 qs A2 c2 ks bs W)(p:Nat)(hp:p=W.heap.size)(cs:Array Value)(T:TypeId):Pr w Ao N co old A1 c1 qs A2 c2 ks ((p,cs,T)::bs) (W.alloc (.cells cs T)):=
 ⟨h.k.new p hp cs T,h.o.alloc _,h.q.alloc _,h.c.alloc _⟩
theorem Pr.add(h:Pr w Ao N co old A1 c1 qs A2 c2 ks bs W)(hb:Below W.heap.size W W')(p:Nat)(hp:W.heap.size≤p)(hB:BlkB W' p cs T):Pr w Ao N co old A1 c1 qs A2 c2 ks ((p,cs,T)::bs) W':=by
 have h':=h.here hb
 refine⟨⟨h'.k.pow,h'.k.bl,?_,?_,?_⟩,h'.o,h'.q,h'.c⟩
 ·intro b hx
  rcases List.mem_cons.1 hx with rfl|hx
  ·exact Nat.le_trans h.k.bl.size hp
  ·exact h'.k.own b hx
 ·refine .cons (fun b hx=> ?_) h'.k.ord
  obtain⟨x,hy,rfl⟩:=List.mem_map.1 hx
  have:=(h.k.blk x hy).lt
  intro e
  have e':p=x.1:=e
  omega
 ·intro b hx
  rcases List.mem_cons.1 hx with rfl|hx
  ·exact hB
  ·exact h'.k.blk b hx
theorem Pr.set(h:Pr w Ao N co old A1 c1 qs A2 c2 ks bs W)(i j:Nat)(hb:bs[i]?=some (p,cs,T))(h1:54≠T)(h2:24≠T)(v:Value):Pr w Ao N co old A1 c1 qs A2 c2 ks (bs.set i (p,cs.setIfInBounds j v,T)) (W.setCell ⟨p,j,none⟩ v):=
 ⟨h.k.set i j hb v,h.o.farB (h.k.at_ i hb) h1 j v,h.q.farB (h.k.at_ i hb) h2 j v,h.c.farB (h.k.at_ i hb) h2 j v⟩
theorem Pr.row(h:Pr w Ao N co old A1 c1 qs A2 c2 ks bs W)(i:Nat)(hb:bs[i]?=some (p,cs,T))(h1:54≠T)(h2:24≠T)(ds:Array Value):Pr w Ao N co old A1 c1 qs A2 c2 ks (bs.set i (p,ds,T)) (W.setRow p ds):=
 ⟨h.k.row i hb ds,h.o.farR (h.k.at_ i hb) h1 ds,h.q.farR (h.k.at_ i hb) h2 ds,h.c.farR (h.k.at_ i hb) h2 ds⟩
end
def PlanPost(m:Mp)(ls:List Lot)(w:World)(e:Ending)(w':World):Prop:=
 ∃v pn pm pf pp,e=.returned (.agg (plB v))∧v.m=m∧PlM w' w'.heap.size v (planL (lotsOf ls m.inst) m) (lotsOf ls m.inst) pn pm pf pp∧Below w.heap.size w w'
theorem ZaB{W:World}{p n:Nat}{l:List Int}(h:BlkB W p (partA l n n) 24)(hn:l.length=n):Strs W W.heap.size (some ⟨p,0,none⟩) n (l.map txtL):=by
 refine⟨by rw[List.length_map,hn],fun _=>⟨p,0,rfl,h.lt,fun j z hj k u hk=> ?_⟩⟩
 obtain⟨hj1,hj2⟩:=List.getElem?_eq_some_iff.1 hj
 rw[List.length_map] at hj1
 have hk0:k=0:=by have:=(List.getElem?_eq_some_iff.1 hk).1;rw[ZaL] at this;omega
 subst hk0
 have hu:u=.string ⟨z.toArray⟩:=by simpa[S1,S] using hk.symm
 have hz:z=txtL (l.getD j 0):=by
  rw[←hj2,List.getElem_map,List.getD_eq_getElem?_getD,List.getElem?_eq_getElem hj1]
  rfl
 rw[hu,hz,Nat.zero_add,Nat.mul_one,Nat.add_zero]
 exact h.cell j (by rw[Zaq _ _ _ _ (by omega),if_pos (by omega)])
theorem ZfK(l:List Int):sumV (l.map txtL)=l.sum:=by
 unfold sumV
 rw[List.map_map]
 have:(val ∘ txtL)=id:=by funext x;exact Zaa x
 rw[this,List.map_id]
end
section
open Go.RowKit Go.Shelf
theorem ZhU(l:List Int):sumV (l.map txtL)=l.sum:=by
 unfold sumV
 rw[List.map_map,show(val ∘ txtL)=id from funext fun n=>Zaa n,List.map_id]
theorem ZeA{α:Type}{l:List α}{k:Nat}{x:α}(d:α)(h:l[k]?=some x):l.getD k d=x:=by rw[List.getD_eq_getElem?_getD,h];rfl
theorem Zgr{t w:Int}{ns:List Int}{K:Nat}(hK:1≤K)(hK2:K≤2000)(h0:0≤t)(hw:∀w∈ns,0≤w)(hS:0<ns.sum)(ht:t.natAbs<10^K)(hs:ns.sum.natAbs<10^K){k:Nat}(hk:ns[k]?=some w):
 (∀W,Calls Tryz.prog 184 #[FrV (frOf (Rat.divInt (t*w) ns.sum))] W (FracPost (frOf (Rat.divInt (t*w) ns.sum)) W))∧
 (∀W,Calls Tryz.prog 63 #[FrV (frOf (Rat.divInt (t*w) ns.sum))] W (StrPost (txtL ((baseL t ns).getD k 0)) W))∧
 (∀W,Calls Tryz.prog 49 #[S (txtL ((baseL t ns).getD k 0))] W (FracPost (frOf (((baseL t ns).getD k 0:Int):Rat)) W))∧
 (∀W,Calls Tryz.prog 64 #[FrV (frOf (Rat.divInt (t*w) ns.sum)),FrV (frOf (((baseL t ns).getD k 0:Int):Rat))] W (FracPost (frOf ((RSt t ns 0).getD k 0)) W)):=by
 have hwk:=hw w (List.mem_of_getElem? hk)
 have hwS:=Zdp hw (List.mem_of_getElem? hk)
 have hq:RB (K+K) (Rat.divInt (t*w) ns.sum):=RB.divInt (Zak ht (by omega)) (Nat.lt_of_lt_of_le hs (Nat.pow_le_pow_right (by omega) (by omega))) (by omega)
 have z1:=Zam hq
 have hq0:0≤Rat.divInt (t*w) ns.sum:=Rat.divInt_nonneg (Int.mul_nonneg h0 hwk) (Int.le_of_lt hS)
 obtain⟨i1,i2⟩:=ZlI t w hS
 have hb:(baseL t ns).getD k 0=(t*w).fdiv ns.sum:=by
  apply ZeA
  simp[baseL,hk]
 have hr:(RSt t ns 0).getD k 0=Rat.divInt ((t*w).fmod ns.sum) ns.sum:=by
  rw[ZlG]
  apply ZeA
  simp[restL,hk]
 rw[hb,hr,←i2,i1]
 have hfl:=ZhI hq (by omega)
 rw[i1] at hfl
 have l1:=Zab hfl
 have z2:(frOf (((t*w).fdiv ns.sum:Int):Rat)).Sz (K+K+1+1):=Zam (Zc7 hfl (by omega))
 refine⟨fun W=>Zgp _ W (z1.more (by omega)) (by rw[Zac];exact hq0),fun W=> ?_,fun W=> ?_,fun W=> ?_⟩
 ·have h:=Zcx (frOf (Rat.divInt (t*w) ns.sum)) W (z1.more (by omega))
  rw[Zac,i1] at h
  exact h
 ·have h:=ZbF (txtL ((t*w).fdiv ns.sum)) W (by omega)
  rw[Zaa] at h
  exact h
 ·have h:=ZdW (frOf (Rat.divInt (t*w) ns.sum)) (frOf (((t*w).fdiv ns.sum:Int):Rat)) W (z1.more (by omega)) (z2.more (by omega))
  rw[Zac,Zac] at h
  exact h
theorem Zgs{t:Int}{ns:List Int}{K:Nat}(hK:1≤K)(hK2:K≤2000)(h0:0≤t)(hw:∀w∈ns,0≤w)(hS:0<ns.sum)(ht:t.natAbs<10^K)(hl:ns.length≤1000):
 (∀W,Calls Tryz.prog 49 #[S (txtL t)] W (FracPost (frOf (t:Rat)) W))∧
 (∀W,Calls Tryz.prog 184 #[FrV (frOf (t:Rat))] W (FracPost (frOf (t:Rat)) W))∧
 (∀W,Calls Tryz.prog 63 #[FrV (frOf (t:Rat))] W (StrPost (txtL t) W))∧
 (∀W P,BlkB W P (txA (baseL t ns)) 24→Calls Tryz.prog 69 #[.slice (some ⟨P,0,none⟩) ns.length ns.length] W (StrPost (txtL (baseL t ns).sum) W))∧
 (∀W,Calls Tryz.prog 35 #[S (txtL t),S (txtL (baseL t ns).sum)] W (StrPost (txtL (missL t ns)) W))∧
 (∀W,Calls Tryz.prog 185 #[S (txtL (missL t ns))] W fun e w'=>e=.returned (.tuple #[.int .i64 (missL t ns),.bool true])∧W=w'):=by
 have l1:=Zab ht
 have z1:(frOf (t:Rat)).Sz (K+1):=Zam (Zc7 ht hK)
 have hm0:=Zbl t hS
 have hm1:=Zkf (t:=t) hS
 have hbs:(baseL t ns).sum=t-missL t ns:=by unfold missL;omega
 have hbn:0≤(baseL t ns).sum:=Zas (fun b hb=>(ZcQ h0 hw hS b hb).1)
 have l2:=Zab (n:=(baseL t ns).sum) (L:=K) (by omega)
 refine⟨fun W=> ?_,fun W=>Zgp _ W (z1.more (by omega)) (by rw[Zac];exact_mod_cast h0),fun W=> ?_,fun W P hP=> ?_,fun W=> ?_,fun W=> ?_⟩
 ·have h:=ZbF (txtL t) W (by omega)
  rw[Zaa] at h
  exact h
 ·have h:=Zcx (frOf (t:Rat)) W (z1.more (by omega))
  rw[Zac,show flo ((t:Int):Rat)=t by unfold flo;simp] at h
  exact h
 ·have hlen:(baseL t ns).length=ns.length:=by simp[baseL]
  rw[ZfJ _ _ hlen] at hP
  have h:=ZbN (some ⟨P,0,none⟩) ns.length ns.length ((baseL t ns).map txtL) W (ZaB hP hlen) (by
   intro x hx
   obtain⟨b,hb,rfl⟩:=List.mem_map.1 hx
   have hbb:=ZcQ h0 hw hS b hb
   have:=Zab (n:=b) (L:=K) (by omega)
   omega) (by omega)
  rw[ZhU] at h
  exact h
 ·have h:=Zdg (txtL t) (txtL (baseL t ns).sum) W (by omega) (by omega)
  rw[Zaa,Zaa] at h
  exact h
 ·have hml:(txtL (missL t ns)).length≤17:=by
   have:=Zab (n:=missL t ns) (L:=4) (by omega)
   omega
  have h:=ZiE (txtL (missL t ns)) W hml (by rw[Zff,Zaa];simp;omega)
  rw[Zaa] at h
  exact h
theorem Zgt{t:Int}{ns:List Int}{K:Nat}(hK:1≤K)(hK2:K≤2000)(h0:0≤t)(hw:∀w∈ns,0≤w)(hS:0<ns.sum)(ht:t.natAbs<10^K)(hs:ns.sum.natAbs<10^K):
 (∀j i k W,Calls Tryz.prog 50 #[FrV (frOf ((RSt t ns j).getD i 0)),FrV (frOf ((RSt t ns j).getD k 0))] W (CmpIPost (cmpR ((RSt t ns j).getD i 0) ((RSt t ns j).getD k 0)) W))∧
 (∀j i W,Calls Tryz.prog 36 #[S (txtL ((PSt t ns j).getD i 0)),.string ⟨#[49]⟩] W (StrPost (txtL ((PSt t ns j).getD i 0+1)) W))∧
 (∀W,Calls Tryz.prog 49 #[.string ⟨#[49]⟩] W (FracPost (frOf 1) W))∧
 (∀j i W,Calls Tryz.prog 64 #[FrV (frOf ((RSt t ns j).getD i 0)),FrV (frOf 1)] W (FracPost (frOf ((RSt t ns j).getD i 0-1)) W)):=by
 have z:=fun j i=>Zam (ZnC (t:=t) hS hs hK j i)
 have z1:(frOf 1).Sz 20:=by rw[show(1:Rat)=((1:Int):Rat) from rfl,ZbZ];exact⟨by decide+kernel,by simp⟩
 refine⟨fun j i k W=> ?_,fun j i W=> ?_,fun W=> ?_,fun j i W=> ?_⟩
 ·have h:=Zat (frOf ((RSt t ns j).getD i 0)) (frOf ((RSt t ns j).getD k 0)) W ((z j i).more (by omega)) ((z j k).more (by omega))
  rw[Zac,Zac] at h
  exact h
 ·have hp:=ZnB h0 hw hS j i
  have hpk:((PSt t ns j).getD i 0).natAbs<10^(K+1):=by
   have:10^K*10=10^(K+1):=(Nat.pow_succ ..).symm
   have:1≤10^K:=Nat.one_le_pow _ _ (by omega)
   omega
  have l:=Zab hpk
  have h:=Zde (txtL ((PSt t ns j).getD i 0)) [49] W (by omega) (by simp)
  rw[Zaa,Za7] at h
  exact h
 ·have h:=ZbF [49] W (by simp)
  rw[Za7] at h
  exact h
 ·have h:=ZdW (frOf ((RSt t ns j).getD i 0)) (frOf 1) W ((z j i).more (by omega)) (z1.more (by omega))
  rw[Zac,Zac] at h
  exact h
end
end Go.Proofs.YtpnncoinlopndaaGreatDoor
