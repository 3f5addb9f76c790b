/- Mf, Lz, Cp, InL. -/
import Derived.Test.YtpnncoinlopndaaGreatDoorQGSm9
import Derived.Lib.AppendZerosOnto
import Derived.Lib.AppendZeros
import Derived.Lib.Overlaps
import Derived.Laws.Externs
import Derived.Deep.RegionLaw
import Derived.RegionTactic
set_option maxRecDepth 100000
set_option maxHeartbeats 8000000
namespace Go.Proofs.YtpnncoinlopndaaGreatDoor
open Go.Lib renaming hid→hdz
section
open Go.RowKit Go.Shelf
attribute [local go_sem] Oper.semAt_some
attribute [local go_sem ↓] Go.wp_at_zero Go.wp_at_succ Zce
structure PlSz2 (K:Nat) (x:Plan):Prop where
 sz:PlSz K x
 mv:∀i,(txtL (x.mv i)).length≤K
 rest:∀i,(txtL (x.rest i)).length≤K
theorem PlSz.more{K L:Nat}{x:Plan}(h:PlSz K x)(hKL:K≤L):PlSz L x:=
 ⟨fun i=>Nat.le_trans (h.n i) hKL,fun i=>Nat.le_trans (h.m i) hKL,fun i=>Nat.le_trans (h.f i) hKL,fun i=>Nat.le_trans (h.p i) hKL⟩
theorem Zc5(v:PlV):(plB v).size=19:=rfl
theorem Zgd(v:PlV)(w:World):Calls Tryz.prog 27 #[.agg (plA v).toArray] w fun e w'=>e=.returned (.func (.func 76) #[] #[.pointer (some ⟨w.heap.size,0,none⟩)])∧w'=w.alloc (.cells (plB v) 60):=by
 rw[Zbt]
 generalize plB v=pb
 go_enter Tryz.func27,Tryz.ntmps27
 go_wp2
 go_ret
 exact⟨rfl,rfl⟩
theorem ZbD(n:Int):(txtL n==[])=decide (n=0):=by rw[Bool.eq_iff_iff];simp only[beq_iff_eq,decide_eq_true_eq];exact ZaQ
theorem Zb4(l:List UInt8):l.isEmpty=(l==[]):=by cases l<;>rfl
def restAt(x:Plan)(N k:Nat):Int:=if cntN x.n k=0 then x.rest N else 0
theorem Zjy(n:List Int)(i:Nat):cntN n (i+1)=cntN n i+if n.getD i 0=0 then 0 else 1:=by
 by_cases h:i<n.length
 ·exact Zjv n i h
 ·have e:n.getD i 0=0:=by rw[List.getD_eq_getElem?_getD,List.getElem?_eq_none (by omega)];rfl
  rw[if_pos e]
  unfold cntN
  rw[List.take_of_length_le (by omega),List.take_of_length_le (by omega)]
  omega
theorem ZcN(m:Mp)(x:Plan)(old:List Lot){i j:Nat}(h:i≤j):freshTo m x old i <+: freshTo m x old j:=by
 obtain⟨d,rfl⟩:=Nat.exists_eq_add_of_le h
 clear h
 induction d with
 |zero=>exact List.prefix_rfl
 |succ d ih=>rw[←Nat.add_assoc,Zcd];exact ih.trans (List.prefix_append _ _)
theorem BlkB.sets7{w:World}{p:Nat}{T:TypeId}{a b c d e f g a' b' c' d' e' f' g':Value}(h:BlkB w p #[a,b,c,d,e,f,g] T):
 BlkB (((((((w.setCell ⟨p,0,none⟩ a').setCell ⟨p,1,none⟩ b').setCell ⟨p,2,none⟩ c').setCell ⟨p,3,none⟩ d').setCell ⟨p,4,none⟩ e').setCell ⟨p,5,none⟩ f').setCell ⟨p,6,none⟩ g') p #[a',b',c',d',e',f',g'] T:=
 by
 have h7:=((((((h.set 0 a').set 1 b').set 2 c').set 3 d').set 4 e').set 5 f').set 6 g'
 simpa only[List.setIfInBounds_toArray,List.set_cons_zero,List.set_cons_succ] using h7
theorem Below.sets7{W w:World}{n p:Nat}{a' b' c' d' e' f' g':Value}(h:Below n W w)(hp:n≤p):
 Below n W (((((((w.setCell ⟨p,0,none⟩ a').setCell ⟨p,1,none⟩ b').setCell ⟨p,2,none⟩ c').setCell ⟨p,3,none⟩ d').setCell ⟨p,4,none⟩ e').setCell ⟨p,5,none⟩ f').setCell ⟨p,6,none⟩ g'):=
 ((((((h.setCell hp _).setCell hp _).setCell hp _).setCell hp _).setCell hp _).setCell hp _).setCell hp _
theorem Zcf(n:Nat)(hn:1≤n)(St:Nat→Prop)(Bx n₀:Nat)(v:PlV)(x:Plan)(old:List Lot)(pn pm pf pp:Nat)(w:World)(hp:Env w)
 (hB:BlkB w Bx (plB v) 60) (hM:PlM w n₀ v x old pn pm pf pp) (hz:PlSz2 20000 x) (hn₀:n₀≤w.heap.size) (hl:old.length≤900000) (hc:v.m.cause.length≤20000) (hS:∀b,b<n₀→St b) (hSx:St Bx)
 (hEnv:∀W W',Env W→KeepS St W W'→Env W'):
 SeqStopsK Fence.wide n Tryz.prog 76 #[.pointer (some ⟨Bx,0,none⟩)] (fun z:{z:Nat×Lot//z∈freshL v.m x old}=>#[Value.int .i64 (z.1.1:Int),LotV z.1.2]) (KeepS St) (fun ys=>ys.map (·.1)=freshL v.m x old) (fun pre=>pre.map (·.1) <+: freshL v.m x old) (freshL v.m x old).length w:=fun l J Jx W hW hJ hJx hY h0=>by
 have hPM:=hM.below (hW.mono hn₀)
 have hBX:BlkB W Bx (plB v) 60:=hB.here hW
 have HEV:=hdz (hp.here hW)
 have HEN:=hdz hEnv
 have HJ:=hdz hJ;have HY:=hdz hY;have H0:=hdz h0;have HST:=hdz hS;have HSX:=hdz hSx
 have HN0:=hdz (show n₀≤W.heap.size by have:=hW.size;omega)
 have HZ:=hdz hz
 obtain⟨N,hN⟩:∃N,N=v.on:=⟨_,rfl⟩
 have hlen:N=old.length:=by rw[hN];exact hPM.len
 have hNl:N≤1000000:=by omega
 have HLEN:=hdz hlen
 have HM:=hdz hPM
 have HBX:=hdz hBX
 have E3:=hdz (show(plB v)[3]?=some (.string ⟨v.m.other.toArray⟩) from rfl)
 have E11:=hdz (show(plB v)[11]?=some (.slice v.oA N v.oc) by rw[hN];rfl)
 have E15:=hdz (show(plB v)[15]?=some (.slice (some ⟨pn,0,none⟩) N N) by rw[hN,←hPM.en];rfl)
 have ES:=hdz (Zc5 v)
 have HMV:=hdz (show ∀(i:Nat) (W':World),i<N→Env W'→PlM W' n₀ v x old pn pm pf pp→n₀≤W'.heap.size→Calls Tryz.prog 78 #[.agg (plB v),.int .i64 i] W' fun e w'=>e=.returned (S (txtL (x.mv i)))∧Below W'.heap.size W' w' from fun i W' hi he hm hle=>
  Ze0 v x old pn pm pf pp i W' he (hm.more hle) (hz.sz.more (by omega)) (by omega) (by omega))
 have HID:=hdz (show ∀(k:Nat) (W':World),1≤k→k≤1000000→Env W'→Calls Tryz.prog 79 #[.agg (plB v),.int .i64 k] W' fun e w'=>e=.returned (S (newId v.m.cause k))∧Below W'.heap.size W' w' from fun k W' h1 h2 he=>
  Zjt v k W' he h1 h2 (by omega))
 have HLT:=hdz (show Lots W n₀ v.oA N old by rw[hN];exact hPM.lots)
 have c11:=hBX.cell 11 E11.out
 have HNN:=hdz hN
 generalize hpb:plB v=pb at*
 generalize hoA:v.oA=oA at*
 generalize v.oc=oc at*
 have HOA:=hdz hoA
 clear hB hM hW hJ hJx hY h0 hn₀ hS hSx hEnv hp hz hPM hlen hBX hN hpb hoA hl hc
 refine callsIn_of_wp Tryz.func76 rfl trivial ?_ rfl
 simp only[Tryz.ntmps76,List.size_toArray,List.length_cons,List.length_nil,Nat.reduceAdd,Nat.reduceSub,Array.replicate_succ,Array.replicate_zero,List.push_toArray,List.append_toArray,List.nil_append,List.cons_append]
 gi_wp2
 gi_loopw [3,5,12] (fun s _ j wr=>∃k:Nat,k≤N∧j=.int .i64 k∧s=.string ⟨(txtL (x.rest k)).toArray⟩∧Hid (Below W.heap.size W wr)) (fun _ _ j _=>N-(intOf j).toNat)
 case atStart=>exact⟨0,Nat.zero_le _,rfl,rfl,Below.refl _ _⟩
 case round=>
  obtain⟨k,hk,rfl,rfl,HB⟩:=hrel
  clear c11
  have hBX2:BlkB wr Bx pb 60:=HBX.out.here HB.out
  by_cases hlt:k<N
  ·have c15:=hBX2.cell 15 E15.out
   have hld:=ZaX hBX2 ES.out
   have pnk:wr.cell? ⟨pn,k,none⟩=some (.string ⟨(txtL (x.n.getD k 0)).toArray⟩):=((HM.out.below (HB.out.mono HN0.out)).bn.cell k (by rw[←HNN.out,Zaq _ _ _ _ hlt,if_pos hlt]))
   have i1:(0:Int)≤(k:Int):=by omega
   have i2:(k:Int)<(N:Int):=by omega
   have HRS:=hdz (Zgc x k)
   by_cases h0:x.n.getD k 0=0
   ·have hs1:(txtL (x.n.getD k 0)==[])=true:=by rw[ZbD];simpa using h0
    have hs2:(txtL (x.n.getD k 0)).isEmpty=true:=by rw[Zb4];exact hs1
    have HMK:=hdz (HMV.out k wr hlt (HEV.out.here HB.out) (HM.out.below (HB.out.mono HN0.out)) (Nat.le_trans HN0.out HB.out.size))
    have HAD:=hdz (fun W hp=>ZbT (txtL (x.rest k)) (txtL (x.mv k)) W hp (by have:=HZ.out.rest k;omega) (by have:=HZ.out.mv k;omega))
    rw[Zaa,Zaa] at HAD
    have HRR:=hdz (show x.rest k+x.mv k=x.rest (k+1) by rw[HRS.out,if_pos h0])
    rw[HRR.out] at HAD
    generalize txtL (x.n.getD k 0)=tn at*
    generalize hrk:txtL (x.rest (k+1))=trk at*
    have HRK:=hdz hrk
    clear h0 hrk hBX2
    generalize txtL (x.rest k)=tr at*
    generalize txtL (x.mv k)=tm at*
    unfold S at HMK
    gi_wp2
    refine⟨trivial,(callsIn_wide.2 HMK.out).mono ?_⟩
    rintro e w1 ⟨rfl,hb1⟩
    have HB1:=hdz (HB.out.trans (hb1.mono HB.out.size))
    clear hb1 hld pnk c15
    gi_wp2
    refine⟨trivial,(callsIn_wide.2 (HAD.out _ (HEV.out.here HB1.out).pow)).mono ?_⟩
    rintro e w2 ⟨rfl,hb2⟩
    try unfold S
    have HB2:=hdz (HB1.out.trans (hb2.mono HB1.out.size))
    clear hb2
    gi_wp2
    go_roundw
    case rel=>exact⟨k+1,by omega,by go_num,by rw[HRK.out],HB2⟩
    case measure=>simp[intOf];omega
   ·have hs1:(txtL (x.n.getD k 0)==[])=false:=by rw[ZbD];simpa using h0
    have hs2:(txtL (x.n.getD k 0)).isEmpty=false:=by rw[Zb4];exact hs1
    have HRR:=hdz (show x.rest (k+1)=x.rest k by rw[HRS.out,if_neg h0,Int.add_zero])
    generalize txtL (x.n.getD k 0)=tn at*
    clear h0 hBX2
    gi_wp2
    go_roundw
    case rel=>exact⟨k+1,by omega,by go_num,by rw[HRR.out],HB⟩
    case measure=>simp[intOf];omega
  ·obtain rfl:k=N:=by omega
   have c11:=hBX2.cell 11 E11.out
   have HC0:=hdz (HJ.out [] W wr none H0.out (Zcr HB.out) (fun r e=>by cases e))
   have HE0:=hdz (HEV.out.here HB.out)
   have HP0:=hdz (HM.out.below (HB.out.mono HN0.out))
   have HX0:=hdz hBX2
   have HS0:=hdz HB.out.size
   have HR0:=hdz (show restAt x k 0=x.rest k by unfold restAt cntN;simp)
   clear hBX2 HB hlt hk H0
   gi_wp2
   gi_loopw [3,4,6,7,8,30] (fun s c _ _ _ j wr=>∃(i:Nat) (pre:List {z:Nat×Lot//z∈freshL v.m x old}),i≤k∧j=.int .i64 i∧c=.int .i64 (cntN x.n i)∧s=.string ⟨(txtL (restAt x k i)).toArray⟩∧Hid (pre.map (·.1)=freshTo v.m x old i)∧Hid (J pre wr)∧Hid (PlM wr n₀ v x old pn pm pf pp)∧Hid (BlkB wr Bx pb 60)∧Hid (Env wr)∧Hid (W.heap.size≤wr.heap.size)) (fun _ _ _ _ _ j _=>k-(intOf j).toNat)
   case atStart=>exact⟨0,[],Nat.zero_le _,rfl,by simp[cntN],by rw[HR0.out],(show _=_ by simp[freshTo]),HC0,HP0,HX0,HE0,HS0⟩
   case round=>
    clear HC0 HE0 HP0 HX0 HS0 HR0 c11
    obtain⟨i,pre,hi,rfl,rfl,rfl,HPR,HJP,HP,HBP,HE,HSZ⟩:=hrel
    by_cases hlt:i<k
    ·have hLT:Lots wr n₀ oA k old:=by rw[HNN.out,←HOA.out];exact HP.out.lots
     obtain⟨b,off,y,hAe,hb,hy,d0,d1,d2,d3,d4,d5,d6⟩:=hLT.lot7 hlt
     subst hAe
     have HYI:=hdz hy
     clear hy hLT
     have c15:=HBP.out.cell 15 E15.out
     have pnk:wr.cell? ⟨pn,i,none⟩=some (.string ⟨(txtL (x.n.getD i 0)).toArray⟩):=(HP.out.bn.cell i (by rw[←HNN.out,Zaq _ _ _ _ hlt,if_pos hlt]))
     have i1:(0:Int)≤(i:Int):=by omega
     have i2:(i:Int)<(k:Int):=by omega
     have hbxl:Bx<wr.heap.size:=HBP.out.lt
     have hpnl:pn<wr.heap.size:=HP.out.bn.lt
     have hbx:Bx≠wr.heap.size:=by omega
     have hpn:pn≠wr.heap.size:=by omega
     have HYB:=hdz (heap_alloc_new wr (.cells #[.string ⟨y.id.toArray⟩,.string ⟨y.inst.toArray⟩,.int .i64 y.acq,.int .i64 y.opn,.string ⟨y.q.toArray⟩,.string ⟨y.c.toArray⟩,.string ⟨y.u.toArray⟩] 54))
     have HBW:=hdz ((Below.refl wr.heap.size wr).alloc (Nat.le_refl _) (.cells #[.string ⟨y.id.toArray⟩,.string ⟨y.inst.toArray⟩,.int .i64 y.acq,.int .i64 y.opn,.string ⟨y.q.toArray⟩,.string ⟨y.c.toArray⟩,.string ⟨y.u.toArray⟩] 54))
     have HFS:=hdz (Zcd v.m x old i)
     rw[HYI.out] at HFS
     have HCN:=hdz (Zjy x.n i)
     have HPN:=hdz (show ∀X,PlM X n₀ v x old pn pm pf pp→X.cell? ⟨pn,i,none⟩=some (.string ⟨(txtL (x.n.getD i 0)).toArray⟩) from fun X hm=>hm.bn.cell i (by rw[←HNN.out,Zaq _ _ _ _ hlt,if_pos hlt]))
     by_cases h0:x.n.getD i 0=0
     ·have hs1:(txtL (x.n.getD i 0)==[])=true:=by rw[ZbD];simpa using h0
      have hs2:(txtL (x.n.getD i 0)).isEmpty=true:=by rw[Zb4];exact hs1
      have HF2:=hdz (show freshTo v.m x old (i+1)=freshTo v.m x old i by rw[HFS.out];simp only[if_pos h0,List.append_nil])
      have HC2:=hdz (show cntN x.n (i+1)=cntN x.n i by rw[HCN.out,if_pos h0,Nat.add_zero])
      have HR2:=hdz (show restAt x k (i+1)=restAt x k i by unfold restAt;rw[HC2.out])
      generalize txtL (x.n.getD i 0)=tn at*
      clear h0
      gi_wp2
      go_roundw
      case rel=>exact⟨i+1,pre,by omega,by go_num,by rw[HC2.out],by rw[HR2.out],(show _=_ by rw[HF2.out];exact HPR.out),HJ.out pre wr _ none HJP.out (Zcr HBW.out) (fun r e=>by cases e),HP.out.below (HBW.out.mono (Nat.le_trans HN0.out HSZ.out)),HBP.out.here HBW.out,HE.out.here HBW.out,Nat.le_trans HSZ.out HBW.out.size⟩
      case measure=>simp[intOf];omega
     ·have hs1:(txtL (x.n.getD i 0)==[])=false:=by rw[ZbD];simpa using h0
      have hs2:(txtL (x.n.getD i 0)).isEmpty=false:=by rw[Zb4];exact hs1
      have hcn:cntN x.n i≤i:=Zjw x.n i
      obtain⟨z,hzd⟩:∃z,z=newL v.m x old.length i y:=⟨_,rfl⟩
      have HF2:=hdz (show freshTo v.m x old (i+1)=freshTo v.m x old i++[(i,z)] by rw[HFS.out,hzd];simp only[if_neg h0])
      have HC2:=hdz (show cntN x.n (i+1)=cntN x.n i+1 by rw[HCN.out,if_neg h0])
      have HR2:=hdz (show restAt x k (i+1)=0 by unfold restAt;rw[HC2.out,if_neg (by omega)])
      have HZ1:=hdz (show z.id=newId v.m.cause (cntN x.n i+1)∧z.inst=v.m.other∧z.acq=y.acq∧z.opn=y.opn∧z.q=txtL (x.n.getD i 0)∧z.c=txtL (x.mv i+restAt x k i)∧z.u=txtL (x.n.getD i 0) by rw[hzd,HLEN.out];exact⟨rfl,rfl,rfl,rfl,rfl,rfl,rfl⟩)
      have hmem:(i,z)∈freshL v.m x old:=by
       have h1:freshTo v.m x old (i+1) <+: freshL v.m x old:=ZcN v.m x old (by have:=HLEN.out;omega)
       exact h1.subset (by rw[HF2.out];simp)
      clear hzd
      have HRD:=hdz (fun W hp=>ZbT (txtL (x.mv i)) (txtL (restAt x k i)) W hp (by have:=HZ.out.mv i;omega) (by unfold restAt;split;(have:=HZ.out.rest k;omega);(rw[show txtL (0:Int)=[] from rfl];simp)))
      rw[Zaa,Zaa] at HRD
      have HMK:=hdz (fun W' he hm hle=>HMV.out i W' hlt he hm hle)
      have HIK:=hdz (fun W' he=>HID.out (cntN x.n i+1) W' (by omega) (by omega) he)
      rw[show((cntN x.n i+1:Nat):Int)=(cntN x.n i:Int)+1 from by omega] at HIK
      obtain⟨hz1,hz2,hz3,hz4,hz5,hz6,hz7⟩:=HZ1.out
      rw[←hz1] at HIK
      rw[←hz6] at HRD
      generalize hcnx:cntN x.n i=cn at*
      have HCX:=hdz hcnx
      generalize hres:restAt x k i=rr at*
      have HRX:=hdz hres
      clear hcnx hres
      generalize txtL (x.mv i)=tmv at*
      generalize txtL (x.n.getD i 0)=tn at*
      generalize txtL rr=trr at*
      have HZI:=hdz (show lotA z=#[.string ⟨z.id.toArray⟩,.string ⟨v.m.other.toArray⟩,.int .i64 y.acq,.int .i64 y.opn,.string ⟨tn.toArray⟩,.string ⟨z.c.toArray⟩,.string ⟨tn.toArray⟩] by unfold lotA;rw[hz2,hz3,hz4,hz5,hz7])
      clear h0 hz1 hz2 hz3 hz4 hz5 hz6 hz7
      unfold S at HMK HIK HRD
      gi_wp2
      generalize hWy:wr.alloc (.cells #[.string ⟨y.id.toArray⟩,.string ⟨y.inst.toArray⟩,.int .i64 y.acq,.int .i64 y.opn,.string ⟨y.q.toArray⟩,.string ⟨y.c.toArray⟩,.string ⟨y.u.toArray⟩] 54)=Wy at*
      clear hWy d0 d1 d2 d3 d4 d5 d6 c15 pnk
      have HSS:=hdz (show ∀X,Below Wy.heap.size Wy X→(X.cell? ⟨Bx,3,none⟩=some (.string ⟨v.m.other.toArray⟩)∧X.cell? ⟨Bx,15,none⟩=some (.slice (some ⟨pn,0,none⟩) k k)∧(ld84 (.pointer (some ⟨Bx,0,none⟩))).run Tryz.prog X=.ok (.agg pb) X∧X.cell? ⟨wr.heap.size,2,none⟩=some (.int .i64 y.acq)∧X.cell? ⟨wr.heap.size,3,none⟩=some (.int .i64 y.opn)∧X.cell? ⟨pn,i,none⟩=some (.string ⟨tn.toArray⟩)) from fun X h=>by
       have hb:=HBW.out.trans (h.mono HBW.out.size)
       have hX:=HBP.out.here hb
       have hY:BlkB X wr.heap.size _ 54:=BlkB.here HYB.out h
       exact⟨hX.cell 3 E3.out,hX.cell 15 E15.out,ZaX hX ES.out,hY.cell 2 rfl,hY.cell 3 rfl,HPN.out X (HP.out.below (hb.mono (Nat.le_trans HN0.out HSZ.out)))⟩)
      have HPX:=hdz (show ∀X,Below Wy.heap.size Wy X→Env X∧PlM X n₀ v x old pn pm pf pp∧n₀≤X.heap.size from fun X h=>by
       have hb:=HBW.out.trans (h.mono HBW.out.size)
       exact⟨HE.out.here hb,HP.out.below (hb.mono (Nat.le_trans HN0.out HSZ.out)),Nat.le_trans (Nat.le_trans HN0.out HSZ.out) hb.size⟩)
      obtain⟨y1,y2,y3,y4,y5,y6⟩:=HSS.out _ (Below.refl _ Wy)
      have HWR:=hdz (Below.refl Wy.heap.size Wy)
      refine wpIn_wide.2 ?_
      go_cut [8] (fun s wc=>∃q8,s=.pointer (some ⟨q8,0,none⟩)∧Hid (BlkB wc q8 (lotA z) 54)∧Hid (Below Wy.heap.size Wy wc))
      case first=>
       go_region_held3? (fun w'=>w'.cell? ⟨Bx,3,none⟩=some (.string ⟨v.m.other.toArray⟩)∧w'.cell? ⟨Bx,15,none⟩=some (.slice (some ⟨pn,0,none⟩) k k)∧(ld84 (.pointer (some ⟨Bx,0,none⟩))).run Tryz.prog w'=.ok (.agg pb) w'∧w'.cell? ⟨wr.heap.size,2,none⟩=some (.int .i64 y.acq)∧w'.cell? ⟨wr.heap.size,3,none⟩=some (.int .i64 y.opn)∧w'.cell? ⟨pn,i,none⟩=some (.string ⟨tn.toArray⟩))
        (first
          |with_reducible exact k4 _ _ _ _ _ _ _
          |with_reducible exact HSS.out _ hg3
          |with_reducible exact HSS.out _ (hg3.alloc hg3.size _)
          |with_reducible exact HSS.out _ hg2
          |with_reducible exact HSS.out _ (hg2.alloc hg2.size _)
          |with_reducible exact HSS.out _ hg1
          |with_reducible exact HSS.out _ (hg1.alloc hg1.size _)
          |with_reducible exact HSS.out _ HWR.out.drew
          |with_reducible exact HSS.out _ (HWR.out.alloc (Nat.le_refl _) _).drew
          |go_keep)
        (first
          |(go_at_call 79
            first
             |((with_reducible refine(HIK.out _ (HPX.out _ HWR.out.drew).1).mono ?_);rintro e w1 ⟨rfl,hb1⟩;have hg1:Below Wy.heap.size Wy w1:=HWR.out.drew.trans hb1)
             |((with_reducible refine(HIK.out _ (HPX.out _ (HWR.out.alloc (Nat.le_refl _) (.cells #[.string ⟨#[]⟩,.string ⟨#[]⟩,.int .i64 0,.int .i64 0,.string ⟨#[]⟩,.string ⟨#[]⟩,.string ⟨#[]⟩] 54)).drew).1).mono ?_);rintro e w1 ⟨rfl,hb1⟩;have hg1:Below Wy.heap.size Wy w1:=(HWR.out.alloc (Nat.le_refl _) (.cells #[.string ⟨#[]⟩,.string ⟨#[]⟩,.int .i64 0,.int .i64 0,.string ⟨#[]⟩,.string ⟨#[]⟩,.string ⟨#[]⟩] 54)).drew.trans (hb1.mono (by simp));have hq1:BlkB w1 Wy.heap.size #[.string ⟨#[]⟩,.string ⟨#[]⟩,.int .i64 0,.int .i64 0,.string ⟨#[]⟩,.string ⟨#[]⟩,.string ⟨#[]⟩] 54:=BlkB.here (w:=(Wy.alloc (.cells #[.string ⟨#[]⟩,.string ⟨#[]⟩,.int .i64 0,.int .i64 0,.string ⟨#[]⟩,.string ⟨#[]⟩,.string ⟨#[]⟩] 54)).drew) (heap_alloc_new Wy _) hb1;have hqq1:Wy.heap.size≤Wy.heap.size:=Nat.le_refl _))
          |(go_at_call 78
            first
             |((with_reducible refine(HMK.out _ (HPX.out _ hg1).1 (HPX.out _ hg1).2.1 (HPX.out _ hg1).2.2).mono ?_);rintro e w2 ⟨rfl,hb2⟩;have hg2:Below Wy.heap.size Wy w2:=hg1.trans (hb2.mono hg1.size);first|(have hq2:=hq1.here hb2;have hqq2:=hqq1)|skip)
             |((with_reducible refine(HMK.out _ (HPX.out _ (hg1.alloc hg1.size (.cells #[.string ⟨#[]⟩,.string ⟨#[]⟩,.int .i64 0,.int .i64 0,.string ⟨#[]⟩,.string ⟨#[]⟩,.string ⟨#[]⟩] 54))).1 (HPX.out _ (hg1.alloc hg1.size _)).2.1 (HPX.out _ (hg1.alloc hg1.size _)).2.2).mono ?_);rintro e w2 ⟨rfl,hb2⟩;have hg2:Below Wy.heap.size Wy w2:=(hg1.alloc hg1.size (.cells #[.string ⟨#[]⟩,.string ⟨#[]⟩,.int .i64 0,.int .i64 0,.string ⟨#[]⟩,.string ⟨#[]⟩,.string ⟨#[]⟩] 54)).trans (hb2.mono (by have:=hg1.size;simp;omega));have hq2:BlkB w2 w1.heap.size #[.string ⟨#[]⟩,.string ⟨#[]⟩,.int .i64 0,.int .i64 0,.string ⟨#[]⟩,.string ⟨#[]⟩,.string ⟨#[]⟩] 54:=BlkB.here (w:=w1.alloc (.cells #[.string ⟨#[]⟩,.string ⟨#[]⟩,.int .i64 0,.int .i64 0,.string ⟨#[]⟩,.string ⟨#[]⟩,.string ⟨#[]⟩] 54)) (heap_alloc_new w1 _) hb2;have hqq2:=hg1.size))
          |(go_at_call 77
            first
             |((with_reducible refine(HRD.out _ (HPX.out _ hg2).1.pow).mono ?_);rintro e w3 ⟨rfl,hb3⟩;unfold S;have hg3:Below Wy.heap.size Wy w3:=hg2.trans (hb3.mono hg2.size);first|(have hq3b:=hq2.here hb3;have hq3:=hqq2;have n0:=hq3b.cell 0 rfl;have n1:=hq3b.cell 1 rfl;have n2:=hq3b.cell 2 rfl;have n3:=hq3b.cell 3 rfl;have n4:=hq3b.cell 4 rfl;have n5:=hq3b.cell 5 rfl;have n6:=hq3b.cell 6 rfl;have g0:=hq3b.frozen 0;have g1:=hq3b.frozen 1;have g2:=hq3b.frozen 2;have g3:=hq3b.frozen 3;have g4:=hq3b.frozen 4;have g5:=hq3b.frozen 5;have g6:=hq3b.frozen 6;have k4:=(fun(a b c d e f g:Value)=>HSS.out _ (Below.sets7 (a':=a) (b':=b) (c':=c) (d':=d) (e':=e) (f':=f) (g':=g) hg3 hq3)))|(have hno:True:=trivial))
             |((with_reducible refine(HRD.out _ (HPX.out _ (hg2.alloc hg2.size (.cells #[.string ⟨#[]⟩,.string ⟨#[]⟩,.int .i64 0,.int .i64 0,.string ⟨#[]⟩,.string ⟨#[]⟩,.string ⟨#[]⟩] 54))).1.pow).mono ?_);rintro e w3 ⟨rfl,hb3⟩;unfold S;have hg3:Below Wy.heap.size Wy w3:=(hg2.alloc hg2.size (.cells #[.string ⟨#[]⟩,.string ⟨#[]⟩,.int .i64 0,.int .i64 0,.string ⟨#[]⟩,.string ⟨#[]⟩,.string ⟨#[]⟩] 54)).trans (hb3.mono (by have:=hg2.size;simp;omega));have hq3b:BlkB w3 w2.heap.size #[.string ⟨#[]⟩,.string ⟨#[]⟩,.int .i64 0,.int .i64 0,.string ⟨#[]⟩,.string ⟨#[]⟩,.string ⟨#[]⟩] 54:=BlkB.here (w:=w2.alloc (.cells #[.string ⟨#[]⟩,.string ⟨#[]⟩,.int .i64 0,.int .i64 0,.string ⟨#[]⟩,.string ⟨#[]⟩,.string ⟨#[]⟩] 54)) (heap_alloc_new w2 _) hb3;have hq3:=hg2.size;have n0:=hq3b.cell 0 rfl;have n1:=hq3b.cell 1 rfl;have n2:=hq3b.cell 2 rfl;have n3:=hq3b.cell 3 rfl;have n4:=hq3b.cell 4 rfl;have n5:=hq3b.cell 5 rfl;have n6:=hq3b.cell 6 rfl;have g0:=hq3b.frozen 0;have g1:=hq3b.frozen 1;have g2:=hq3b.frozen 2;have g3:=hq3b.frozen 3;have g4:=hq3b.frozen 4;have g5:=hq3b.frozen 5;have g6:=hq3b.frozen 6;have k4:=(fun(a b c d e f g:Value)=>HSS.out _ (Below.sets7 (a':=a) (b':=b) (c':=c) (d':=d) (e':=e) (f':=f) (g':=g) hg3 hq3)))))
       all_goals
        go_wp2_with fail
        go_meet
        first
         |(with_reducible refine⟨_,rfl,hdz ?_,hdz ?_⟩;(with_reducible show BlkB (World.alloc _ _) _ _ _);(·(rw[HZI.out];exact heap_alloc_new w3 _));(·(exact hg3.alloc hg3.size _)))
         |(with_reducible refine⟨_,rfl,hdz ?_,hdz ?_⟩;(with_reducible show BlkB (World.setCell _ _ _) _ _ _);(·(rw[HZI.out];with_reducible exact BlkB.sets7 hq3b));(·(with_reducible exact Below.sets7 hg3 hq3)))
         |(refine⟨w3.heap.size,rfl,?_,hdz (hg3.alloc hg3.size _)⟩;show BlkB _ _ _ _;rw[HZI.out];exact heap_alloc_new w3 _)
      case rest=>
       clear HRD HMK HIK HSS HPN HWR y1 y2 y3 y4 y5 y6
       obtain⟨q8,rfl,HQ8,HWC⟩:=hcut
       have hb:=HBW.out.trans (HWC.out.mono HBW.out.size)
       have HJ1:=hdz (HJ.out pre wr wc none HJP.out (Zcr hb) (fun r e=>by cases e))
       have HP1:=hdz (HP.out.below (hb.mono (Nat.le_trans HN0.out HSZ.out)))
       have HB1:=hdz (HBP.out.here hb)
       have HE1:=hdz (HE.out.here hb)
       have HS1:=hdz (Nat.le_trans HSZ.out hb.size)
       have hq8:BlkB wc q8 #[.string ⟨z.id.toArray⟩,.string ⟨z.inst.toArray⟩,.int .i64 z.acq,.int .i64 z.opn,.string ⟨z.q.toArray⟩,.string ⟨z.c.toArray⟩,.string ⟨z.u.toArray⟩] 54:=HQ8.out
       have c0:=hq8.cell 0 rfl
       have c1:=hq8.cell 1 rfl
       have c2:=hq8.cell 2 rfl
       have c3:=hq8.cell 3 rfl
       have c4:=hq8.cell 4 rfl
       have c5:=hq8.cell 5 rfl
       have c6:=hq8.cell 6 rfl
       clear HQ8 HWC HZI hb hq8 HPX HBP HP HE HJP HYB HBW
       obtain⟨fn,tmps,assign,body,hy,hR⟩:=HY.out pre ⟨(i,z),hmem⟩ _ HJ1.out (by
        have h1:=(ZcN v.m x old (show i+1≤old.length by have:=HLEN.out;omega)).length_le
        rw[HF2.out,List.length_append,←HPR.out,List.length_map,List.length_singleton] at h1
        exact h1)
       dsimp only[LotV,S] at hy
       have HR:=hdz hR
       clear hR
       gi_wp2
       refine HR.out.mono ?_
       rintro e W3 (⟨rfl,hJ3,hk3⟩|⟨rfl,hJx3⟩)
       ·have HJ3:=hdz hJ3;have HK3:=hdz hk3
        clear hJ3 hk3
        gi_wp2
        go_roundw
        case rel=>exact⟨i+1,pre++[⟨(i,z),hmem⟩],by omega,by go_num,by rw[HC2.out];go_num,by rw[HR2.out];rfl,(show _=_ by rw[HF2.out,List.map_append,HPR.out];rfl),HJ3,HP1.out.kept (Nat.le_trans HN0.out HS1.out) (fun b hb=>HK3.out.2 b (HST.out b hb) (Nat.lt_of_lt_of_le hb (Nat.le_trans HN0.out HS1.out))),HK3.out.blk HB1.out HSX.out,HEN.out _ _ HE1.out HK3.out,Nat.le_trans HS1.out HK3.out.1⟩
        case measure=>simp[intOf];omega
       ·have HJ3:=hdz hJx3
        clear hJx3
        gi_wp2
        refine bodyPost_ret (results_none rfl _ _ _) rfl ?_
        exact⟨⟨_,rfl⟩,.inr ⟨pre++[⟨(i,z),hmem⟩],by rw[List.map_append,HPR.out];show _++[(i,z)] <+: _;rw[←HF2.out];exact ZcN v.m x old (by have:=HLEN.out;omega),HJ3.out⟩⟩
    ·obtain rfl:i=k:=by omega
     have c15:=HBP.out.cell 15 E15.out
     gi_wp2
     go_end0
     exact⟨⟨_,rfl⟩,.inl ⟨pre,(by rw[HPR.out,HLEN.out];rfl),HJP.out⟩⟩
end
section
open Go.RowKit Go.Shelf
structure PlK (K:Nat) (x:Plan):Prop where
 ex:RB K x.exact
 parts:x.parts.natAbs<10^K
 part:RB K x.part
 moved:x.moved.natAbs<10^K
 taken:x.taken.natAbs<10^K
 cash:x.cash.natAbs<10^K
 n:∀i,(x.n.getD i 0).natAbs<10^K
 m:∀i,(x.m.getD i 0).natAbs<10^K
 f:∀i,(x.f.getD i 0).natAbs<10^K
 p:∀i,(x.p.getD i 0).natAbs<10^K
 mv:∀i,(x.mv i).natAbs<10^K
 rest:∀i,(x.rest i).natAbs<10^K
theorem ZcF{a K L:Nat}(h:a<10^K)(hKL:K≤L):a<10^L:=Nat.lt_of_lt_of_le h (Nat.pow_le_pow_right (by omega) hKL)
theorem Zfv{l:List Int}{K:Nat}(h0:∀x∈l,0≤x)(hs:l.sum.natAbs<10^K)(i:Nat):(l.getD i 0).natAbs<10^K:=by
 rw[List.getD_eq_getElem?_getD]
 cases h:l[i]? with
 |none=>exact Nat.pow_pos (by omega)
 |some x=>
  have hx:=List.mem_of_getElem? h
  have h1:=h0 x hx
  have h2:=Zdp h0 hx
  show x.natAbs<_
  omega
theorem Zc6{α:Type}{l:List α}{g:α→Int}{L:Nat}(h:∀a∈l,(g a).natAbs<10^L)(hl:l.length≤1000):((l.map g).sum).natAbs<10^(L+4):=by
 have h1:∀(k:List α),(∀a∈k,(g a).natAbs<10^L)→((k.map g).sum).natAbs≤k.length*10^L:=by
  intro k
  induction k with
  |nil=>intro _;simp
  |cons a k ih=>
   intro hk
   have e1:=hk a (by simp)
   have e2:=ih (fun b hb=>hk b (by simp[hb]))
   rw[List.map_cons,List.sum_cons,List.length_cons,Nat.succ_mul]
   omega
 have h2:=h1 l h
 have h3:l.length*10^L≤1000*10^L:=Nat.mul_le_mul_right _ hl
 have h4:10^(L+4)=10000*10^L:=by rw[Nat.pow_add,Nat.mul_comm]
 have h5:0<10^L:=Nat.pow_pos (by omega)
 rw[h4]
 generalize 10^L=P at*
 generalize l.length*P=Z at*
 omega
theorem Zl4{q:Rat}{K:Nat}(h:RB K q)(hK:1≤K):(rnd q).natAbs<10^(K+1):=by
 have h1:=ZfW q
 have h2:=(Zcq q).2
 have h3:=h.1
 have h4:10^(K+1)=10*10^K:=by rw[Nat.pow_add,Nat.mul_comm]
 have h5:10^1≤10^K:=Nat.pow_le_pow_right (by omega) hK
 rw[h4]
 generalize 10^K=P at*
 rcases h2 with h2|⟨h2,_⟩<;>omega
theorem ZhI{q:Rat}{K:Nat}(h:RB K q)(hK:1≤K):(flo q).natAbs<10^(K+1):=by
 have h1:=ZfW q
 have h3:=h.1
 have h4:10^(K+1)=10*10^K:=by rw[Nat.pow_add,Nat.mul_comm]
 have h5:10^1≤10^K:=Nat.pow_le_pow_right (by omega) hK
 rw[h4]
 generalize 10^K=P at*
 omega
theorem Zjz{q:Rat}{K:Nat}(h:RB K q):RB K (q-((flo q:Int):Rat)):=by
 rw[Zdq]
 obtain⟨h1,h2⟩:=ZaJ q
 have hd:(q.den:Int)≠0:=by have:=q.den_nz;omega
 exact RB.divInt (by have:=h.2;omega) (by have:=h.2;omega) hd
theorem ZcO{p q:Rat}{K:Nat}(hp:RB K p)(hq:RB K q):RB (K+K+2) (p*q):=by
 have h:=Zi3 (Zam hp) (Zam hq) (by omega)
 rw[Zac,Zac] at h
 exact h.more (by omega)
theorem Zc7{k:Int}{K:Nat}(h:k.natAbs<10^K)(hK:1≤K):RB K ((k:Int):Rat):=by
 refine⟨by simpa using h,?_⟩
 have:10^1≤10^K:=Nat.pow_le_pow_right (by omega) hK
 simp
 omega
theorem Zds{old:List Lot}{m:Mp}{L:Nat}(h:∀y∈old,y.Ok)(hm:m.Ok)(hl:old.length≤1000)(hL:1≤L)(hq:∀y∈old,y.q.length≤L)(hc:∀y∈old,y.c.length≤L)(hr:m.ratio.Sz L)(hpr:m.price.Sz L):PlK (4*L+40) (planL old m):=by
 have hsq:((old.map fun y=>val y.q).sum).natAbs<10^(L+4):=Zc6 (fun y hy=>Zai (hq y hy)) hl
 have hsc:((old.map fun y=>val y.c).sum).natAbs<10^(L+4):=Zc6 (fun y hy=>Zai (hc y hy)) hl
 have hok:=Zc2 h hm
 obtain⟨nq,nc⟩:=ZbK h
 obtain⟨l1,l2,l3,l4⟩:=Za1 old m
 have hex:RB (2*L+10) (planL old m).exact:=by
  rw[hok.ex]
  exact(ZcO (Zc7 hsq (by omega)) ((Zd7 hr hL).more (show L≤L+4 by omega))).more (by omega)
 have hparts:(planL old m).parts.natAbs<10^(2*L+11):=ZhI hex (by omega)
 have hpart:RB (2*L+10) (planL old m).part:=Zjz hex
 have hmoved:(planL old m).moved.natAbs<10^(L+4):=by have h1:=hok.moved0;have h2:=hok.moved1;omega
 have htaken:(planL old m).taken.natAbs<10^(L+4):=by have h1:=hok.taken0;have h2:=hok.taken1;have h3:=hok.moved0;omega
 have hcash:(planL old m).cash.natAbs<10^(4*L+23):=by
  have e:(planL old m).cash=rnd ((planL old m).part*m.price.rat):=rfl
  rw[e]
  exact Zl4 ((ZcO hpart ((Zd7 hpr hL).more (show L≤2*L+10 by omega))).more (by omega)) (by omega)
 have nm:∀x∈(planL old m).m,0≤x:=ZaS hok.moved0 nc
 have nn:∀x∈(planL old m).n,0≤x:=ZaS hok.parts0 nq
 have nf:∀x∈(planL old m).f,0≤x:=ZaS hok.taken0 nm
 have np:∀x∈(planL old m).p,0≤x:=ZaS hok.cash0 nq
 have hsum:(planL old m).n.sum.natAbs<10^(2*L+11)∧(planL old m).m.sum.natAbs<10^(L+4)∧(planL old m).f.sum.natAbs<10^(L+4)∧(planL old m).p.sum.natAbs<10^(4*L+23):=by
  by_cases ho:old=[]
  ·subst ho
   rw[List.length_nil] at l1 l2 l3 l4
   rw[List.eq_nil_of_length_eq_zero l1,List.eq_nil_of_length_eq_zero l2,List.eq_nil_of_length_eq_zero l3,List.eq_nil_of_length_eq_zero l4]
   exact⟨Nat.pow_pos (by omega),Nat.pow_pos (by omega),Nat.pow_pos (by omega),Nat.pow_pos (by omega)⟩
  ·obtain⟨s1,s2,s3,s4,_⟩:=Zcs h hm ho
   rw[s1,s2,s3,s4]
   exact⟨hparts,hmoved,htaken,hcash⟩
 have gm:=Zfv nm hsum.2.1
 have gf:=Zfv nf hsum.2.2.1
 have gmv:∀i,((planL old m).mv i).natAbs<10^(L+5):=fun i=>Zcm (gm i) (gf i)
 have hrest:∀i,((planL old m).rest i).natAbs≤(min i old.length)*10^(L+5):=by
  intro i
  induction i with
  |zero=>show(0:Int).natAbs≤_;simp
  |succ i ih=>
   rw[Zgc]
   have h1:=gmv i
   have h0:i≥old.length→(planL old m).mv i=0:=fun hi=>by
    unfold Plan.mv
    rw[List.getD_eq_getElem?_getD,List.getD_eq_getElem?_getD,List.getElem?_eq_none (by omega),List.getElem?_eq_none (by omega)]
    rfl
   generalize (planL old m).mv i=v at*
   generalize (planL old m).rest i=r at*
   by_cases hi:i<old.length
   ·rw[Nat.min_eq_left (by omega)] at ih ⊢
    rw[Nat.succ_mul]
    generalize 10^(L+5)=P at*
    generalize i*P=Z at*
    split<;>omega
   ·rw[Nat.min_eq_right (by omega)] at ih ⊢
    rw[h0 (by omega)]
    simpa using ih
 refine⟨hex.more (by omega),ZcF hparts (by omega),hpart.more (by omega),ZcF hmoved (by omega),ZcF htaken (by omega),ZcF hcash (by omega),fun i=>ZcF (Zfv nn hsum.1 i) (by omega),fun i=>ZcF (gm i) (by omega),fun i=>ZcF (gf i) (by omega),fun i=>ZcF (Zfv np hsum.2.2.2 i) (by omega),fun i=>ZcF (gmv i) (by omega),fun i=> ?_⟩
 have h1:=hrest i
 have h2:(min i old.length)*10^(L+5)≤1000*10^(L+5):=Nat.mul_le_mul_right _ (by omega)
 have h4:10^(L+5+4)=10000*10^(L+5):=by rw[Nat.pow_add,Nat.mul_comm]
 have h5:0<10^(L+5):=Nat.pow_pos (by omega)
 refine ZcF (K:=L+5+4) ?_ (by omega)
 rw[h4]
 generalize 10^(L+5)=P at*
 generalize (min i old.length)*P=Z at*
 omega
end
section
open Go.RowKit
theorem Zct{P:Program}(w:World)(dT sT ty elem:TypeId)(k g off dLen dCap:Nat)(ad:Addr)(sLen sCap m:Nat)(cur:List Value)(t:TypeId)(cs:List Value)
 (hu:P.underlying dT=some (.slice elem)) (hsz:(P.info? elem).map (·.size)=some k) (hg:w.heap[g]?=some (.cells cur.toArray t (0,0))) (hm:Nat.min sLen dLen=m) (hn:cs.length=m*k)
 (hsrc:∀j v,cs[j]?=some v→w.cell? (ad.add j)=some v) (hfit:off+cs.length≤cur.length) (h1:∀v∈cs,v.oneCell'=true):
 (Builtin.copy_ #[dT,sT] ty #[.slice (some ⟨g,off,none⟩) dLen dCap,.slice (some ad) sLen sCap]).run P w=.ok (goInt m) (w.setRow g (splice cur off cs).toArray):=by
 have hl:=run_loadCells_list (P:=P) w ad cs hsrc
 have hst:=run_storeCells_at (P:=P) g off t cs 0 cur.toArray w hg (by simpa using hfit) h1
 cases hq:P.info? elem with
 |none=>simp[hq] at hsz
 |some i=>
  have hi:i.size=k:=by simpa[hq] using hsz
  simp[Builtin.copy_,run_underlying hu,Builtin.lenOf,Builtin.firstCells,sizeOf,typeInfo,hq,hi,hm,←hn,hl,hst,splice]
theorem Zk4{P:Program}(w:World){o:Oper}{a:Act}{K:Act→World→Prop}{Q:Exit→Act→World→Prop}(d s:Operand)(t t':TypeId)
 (ho:o.op=.call {callee:=.builtin .copy,args:=#[d,s],argTypes:=#[t,t']}) (v u:Value) (hd:a.eval d=v) (hs:a.eval s=u) {v':Value} {w':World}
 (hr:(Builtin.copy_ #[t,t'] o.type #[v,u]).run P w=.ok v' w') (h:K (a.put o.dst v') w'):o.wp P a w K Q:=by
 unfold Oper.wp execOp
 simp only[ho,resolve,invoke,builtin,Sem.run_bind,Sem.run_pure,Result.andThen_ok,List.map_toArray,List.map_cons,List.map_nil,hd,hs,hr]
 exact h
theorem Ze1{P:Program}{ops:Array Oper}{o:Oper}{a:Act}{w:World}{K:Act→World→Prop}{Q:Exit→Act→World→Prop}{E:Prop}
 (hg:o.guard=none) (d x:Operand) (dT sT:TypeId) (hop:o.op=Op.call {callee:=Callee.builtin Builtin.copy,args:=#[d,x],argTypes:=#[dT,sT]})
 (v u:Value) (hd:a.eval d=v) (hx:a.eval x=u) {v':Value} {w':World} (hr:(Builtin.copy_ #[dT,sT] o.type #[v,u]).run P w=.ok v' w') (hK:K (a.put o.dst v') w'):
 if Region.wanted o (yielded ops a.tmps)=true then Oper.wp P o a w K Q else E:=by
 have hw:Region.wanted o (yielded ops a.tmps)=true:=by simp[Region.wanted,hg]
 rw[if_pos hw]
 exact Zk4 w d x dT sT hop v u hd hx hr hK
section
variable {α:Type} {enc:α→List Value} {k:Nat}
theorem Zbo{β:Type}(L:List β)(off:Nat)(cs:List β)(hfit:off+cs.length≤L.length)(j:Nat):(splice L off cs)[j]?=if j<off then L[j]? else if j<off+cs.length then cs[j-off]? else L[j]?:=by
 unfold splice
 by_cases h1:j<off
 ·rw[if_pos h1,List.getElem?_append_left (by rw[List.length_take];omega),List.getElem?_take_of_lt h1]
 ·rw[if_neg h1,List.getElem?_append_right (by rw[List.length_take];omega),List.length_take,Nat.min_eq_left (by omega)]
  by_cases h2:j<off+cs.length
  ·rw[if_pos h2,List.getElem?_append_left (by omega)]
  ·rw[if_neg h2,List.getElem?_append_right (by omega),List.getElem?_drop]
   congr 1
   omega
theorem ZjA(he:∀x,(enc x).length=k)(cur:List Value)(xs:List α)(x:α)(i:Nat)(hi:i≤xs.length)(hlen:(xs.length+1)*k≤cur.length)(hpre:∀j,j<i*k→cur[j]?=(xs.flatMap enc)[j]?)
 (new:List Value) (hnl:new.length=cur.length)
 (hnew:∀j,new[j]?=if j<i*k then cur[j]? else if j<(i+1)*k then(enc x)[j-i*k]? else if j<(xs.length+1)*k then((xs.drop i).flatMap enc)[j-(i+1)*k]? else cur[j]?):
 new.take ((xs.length+1)*k)=(xs.take i++x::xs.drop i).flatMap enc:=by
 have hk:(i+1)*k=i*k+k:=Nat.succ_mul i k
 have hik:i*k≤xs.length*k:=Nat.mul_le_mul_right k hi
 have hn1:(xs.length+1)*k=xs.length*k+k:=Nat.succ_mul _ k
 have hft:(xs.take i).flatMap enc=(xs.flatMap enc).take (i*k):=ZdY he xs i
 have hlt:((xs.take i).flatMap enc).length=i*k:=by rw[Zan he,List.length_take,Nat.min_eq_left hi]
 have hld:((xs.drop i).flatMap enc).length=xs.length*k-i*k:=by rw[Zan he,List.length_drop,Nat.sub_mul]
 apply List.ext_getElem?
 intro j
 rw[List.flatMap_append,List.flatMap_cons]
 by_cases h1:j<i*k
 ·rw[List.getElem?_take_of_lt (by omega),hnew,if_pos h1,hpre j h1,List.getElem?_append_left (by omega),hft,List.getElem?_take_of_lt h1]
 ·rw[List.getElem?_append_right (by omega),hlt]
  by_cases h2:j<(i+1)*k
  ·rw[List.getElem?_take_of_lt (by omega),hnew,if_neg h1,if_pos h2,List.getElem?_append_left (by rw[he];omega)]
  ·rw[List.getElem?_append_right (by rw[he];omega),he]
   by_cases h3:j<(xs.length+1)*k
   ·rw[List.getElem?_take_of_lt h3,hnew,if_neg h1,if_neg h2,if_pos h3]
    congr 1
    omega
   ·rw[List.getElem?_eq_none (by rw[List.length_take];omega),List.getElem?_eq_none (by omega)]
end
end
section
open Go.RowKit Go.Shelf
theorem Zb0:ElemT Tryz.prog 22 54 7 96:=ZbP Tryz.underlying22 (by kernel_rfl) (by decide) (by decide)
theorem ZgV(a:Addr)(n c:Nat)(xs:List Lot)(w:World)(hr:Lots w w.heap.size (some a) n xs)(hn:n≤1000000):
 Calls Tryz.prog 26 #[.slice (some a) n c] w (RetOwn L7 7 54 w.heap.size w xs):=by
 have HR:=hdz (hr.alloc (Nat.le_refl _) (.cells #[] 54));clear hr
 have hnil:(binOp .eql 22 (.slice (some a) n c) (.slice none 0 0)).run Tryz.prog w=.ok (.bool false) w:=run_eql_slice_nil w 22 54 _ n c Tryz.underlying22
 go_enter Tryz.func26,Tryz.ntmps26
 go_wp2_with (at_builtin;refine Zap _ rfl (.tmp 5) (.tmp 6) _ rfl Zb0 Zah ZbC (base:=w.heap.size) (.slice (some ⟨w.heap.size,0,none⟩) 0 0) [] rfl (Own.lit w #[] 54 [] rfl Zah (Nat.le_refl _) (by simp)) _ _ n c xs rfl HR.out (by simp;omega) (by simp) ?_
              intro A3 c3 w3 ho3 hg3 _
              rw[List.length_nil,Nat.zero_add] at ho3 ⊢
              rw[List.nil_append] at ho3
              have hb3:Below w.heap.size w w3:=Zae ((Below.refl _ _).alloc (Nat.le_refl _) _) hg3 (by simp) (fun g e=>by simp[Value.ownBlock] at e;omega)
              have HO3:=hdz ho3;clear ho3 hg3)
 go_ret
 exact RetOwn.mk rfl HO3.out hb3
theorem ZgW(w:World):Calls Tryz.prog 26 #[.slice none 0 0] w (RetOwn L7 7 54 w.heap.size w ([]:List Lot)):=by
 have hnil:(binOp .eql 22 (.slice none 0 0) (.slice none 0 0)).run Tryz.prog w=.ok (.bool true) w:=run_eql_slice_nil w 22 54 _ 0 0 Tryz.underlying22
 go_enter Tryz.func26,Tryz.ntmps26
 go_wp2
 go_ret
 exact RetOwn.mk rfl Own.nil (Below.refl _ _)
def RetIns(base:Nat)(w:World)(n:Nat)(xs:List Lot)(e:Ending)(w':World):Prop:=
 ∃A c,e=.returned (.slice A n c)∧Own L7 7 54 w' base (.slice A n c) xs∧Below base w w'
theorem ZmD(A:Option Addr)(n c vb base:Nat)(xs:List Lot)(x:Lot)(w:World)(ho:Own L7 7 54 w base (.slice A n c) xs)(hv:Lots w w.heap.size (some ⟨vb,0,none⟩) 1 [x])(hn:n≤1000000)(hbs:base≤w.heap.size):
 Calls Tryz.prog 84 #[.slice A n c,.int .i64 n,.slice (some ⟨vb,0,none⟩) 1 1] w (RetIns base w (n+1) (xs++[x])):=by
 obtain⟨hnx,hxc,hcm,hA⟩:=ho.facts
 have HO:=hdz ho;have HV:=hdz hv
 have hc63:c≤9223372036854775807:=by unfold maxLen at hcm;omega
 have hnc:n≤c:=by omega
 have HRI:=hdz (show ∀e w',RetIns base w (n+1) (xs++[x]) e w'=∃A c,e=.returned (.slice A (n+1) c)∧Own L7 7 54 w' base (.slice A (n+1) c) (xs++[x])∧Below base w w' from fun _ _=>rfl)
 generalize RetIns base w (n+1) (xs++[x])=post at*
 have HA:=hdz hA
 have HN:=hdz hnx
 clear ho hv hcm hxc hA hnx
 go_enter Tryz.func84,Tryz.ntmps84
 go_wp2_with (at_builtin;refine Zap _ rfl (.tmp 23) (.tmp 24) _ rfl Zb0 Zah ZbC (base:=base) (.slice A n c) xs rfl HO.out _ _ 1 1 [x] rfl HV.out (by rw[←HN.out];omega) hbs ?_
              intro A3 c3 w3 ho3 hg3 _
              rw[←HN.out] at ho3 ⊢
              have HO3:=hdz ho3
              have HG3:=hdz hg3
              clear ho3 hg3)
 all_goals
  first|go_ret|skip
  rw[HRI.out]
  refine⟨A3,c3,rfl,HO3.out,Zae (Below.refl _ _) HG3.out hbs (fun g e=> ?_)⟩
  rcases HA.out with ⟨rfl,_⟩|⟨g',rfl,hg1,_⟩
  ·simp[Value.ownBlock] at e
  ·simp[Value.ownBlock] at e;omega
def lotC7(x:Lot):Array Value:=#[.string ⟨x.id.toArray⟩,.string ⟨x.inst.toArray⟩,.int .i64 x.acq,.int .i64 x.opn,.string ⟨x.q.toArray⟩,.string ⟨x.c.toArray⟩,.string ⟨x.u.toArray⟩]
theorem Zc8(x:Lot):(L7 x).toArray=lotC7 x:=rfl
theorem Zk5(w:World)(vb g off lb cb:Nat)(x:Lot)(cur:Array Value)(hv:BlkB w vb (lotC7 x) 54)(hg:BlkB w g cur 54)(hc:cur.size≠0)(hne:vb≠g):
 (callFunc 133 #[.slice (some ⟨vb,0,none⟩) 1 1,.slice (some ⟨g,off,none⟩) lb cb]).run Tryz.prog w=.ok (.value (.bool false)) w:=by
 have hsa:w.shape? vb=some (54,7):=by unfold BlkB at hv;simp[World.shape?,hv,lotC7]
 have hsb:w.shape? g=some (54,cur.size):=by unfold BlkB at hg;simp[World.shape?,hg]
 rw[run_callFunc_extern Tryz.func133 (by kernel_rfl) (by kernel_rfl) (by kernel_rfl) (e:=Extern.SlicesOverlaps.overlaps #[22,22] #[4]) (by kernel_rfl),
  Lib.run_overlaps_apart w 22 4 54 Tryz.underlying22 7 Tryz.sizeOf54 ⟨vb,0,none⟩ ⟨g,off,none⟩ 1 1 lb cb hne 54 54 7 cur.size hsa hsb hc (hv.frozen 0) (hv.frozen 7)]
 rfl
theorem Zk6(g n c i vb base:Nat)(xs:List Lot)(x:Lot)(w:World)(ho:Own L7 7 54 w base (.slice (some ⟨g,0,none⟩) n c) xs)(hv:BlkB w vb (lotC7 x) 54)(hne:vb≠g)(hi:i<n)(hroom:n+1≤c)(hn:n≤1000000)(_hbs:base≤w.heap.size):
 Calls Tryz.prog 84 #[.slice (some ⟨g,0,none⟩) n c,.int .i64 i,.slice (some ⟨vb,0,none⟩) 1 1] w (RetIns base w (n+1) (xs.take i++x::xs.drop i)):=by
 obtain⟨hnx,hxc,hcm,hA⟩:=ho.facts
 have ho2:=ho.2
 rcases ho2 with ⟨hv0,_⟩|⟨g',cap',cur,hv1,hbg,hg,hnc,_,hcs,htk⟩
 ·cases hv0
 injection hv1 with a1 a2 a3
 injection a1 with a1
 injection a1 with a1 _
 subst a1;subst a3
 subst hnx
 have hsz:(Tryz.prog.info? 54).map (·.size)=some 7:=by kernel_rfl
 have hgB:BlkB w g cur 54:=hg
 have hg1:w.drew.heap[g]?=some (.cells cur.toList.toArray 54 (0,0)):=by rw[Array.toArray_toList];exact hg
 have hfl:(xs.flatMap L7).length=xs.length*7:=Zan Zah xs
 have hcl:cur.toList.length=c*7:=by simpa using hcs
 have hcells:∀(j:Nat) (v:Value),(xs.flatMap L7)[j]?=some v→cur[j]?=some v:=by
  intro j v hj
  rw[←htk,List.getElem?_take] at hj
  split at hj
  ·simpa using hj
  ·cases hj
 have hcp1:∀ty dc sc,(Builtin.copy_ #[22,22] ty #[.slice (some ⟨g,(i+1)*7,none⟩) (xs.length-i) dc,.slice (some ⟨g,i*7,none⟩) (xs.length+1-i) sc]).run Tryz.prog w.drew=.ok (goInt (xs.length-i:Nat)) (w.drew.setRow g (splice cur.toList ((i+1)*7) ((xs.drop i).flatMap L7)).toArray):=fun ty dc sc=>
  Zct w.drew _ _ ty 54 7 g ((i+1)*7) _ dc ⟨g,i*7,none⟩ _ sc (xs.length-i) cur.toList 54 ((xs.drop i).flatMap L7) Tryz.underlying22 hsz hg1 (by simp only[Nat.min_def];split<;>omega) (by rw[Zan Zah,List.length_drop])
   (fun j v hj=>by
     rw[Addr.add_lit]
     show w.cell? ⟨g,i*7+j,none⟩=some v
     exact hgB.cell (i*7+j) (hcells (i*7+j) v (by
      have e:(xs.flatMap L7).drop (i*7)=(xs.drop i).flatMap L7:=by
       conv=>lhs;rw[←List.take_append_drop i xs,List.flatMap_append]
       rw[List.drop_append_of_le_length (by rw[Zan Zah,List.length_take];omega),List.drop_eq_nil_of_le (by rw[Zan Zah,List.length_take];omega),List.nil_append]
      rw[←e,List.getElem?_drop] at hj
      exact hj)))
   (by rw[Zan Zah,List.length_drop,hcl];omega) (fun v hv=>by
     obtain⟨y,_,hy⟩:=List.mem_flatMap.1 hv
     exact ZbC y v hy)
 obtain⟨Z1,hZ1⟩:∃Z1,Z1=splice cur.toList ((i+1)*7) ((xs.drop i).flatMap L7):=⟨_,rfl⟩
 have hz1l:Z1.length=c*7:=by rw[hZ1,length_splice _ _ _ (by rw[Zan Zah,List.length_drop,hcl];omega),hcl]
 rw[←hZ1] at hcp1
 obtain⟨W1,hW1⟩:∃W1,W1=w.drew.setRow g Z1.toArray:=⟨_,rfl⟩
 rw[←hW1] at hcp1
 have hg2:W1.heap[g]?=some (.cells Z1.toArray 54 (0,0)):=by rw[hW1];exact setRow_heap _ _ _ _ _ _ hg1
 have hv2:BlkB W1 vb (lotC7 x) 54:=by rw[hW1];exact(setRow_other _ _ _ _ hne).trans hv
 have hcp2:∀ty dc,(Builtin.copy_ #[22,22] ty #[.slice (some ⟨g,i*7,none⟩) (xs.length+1-i) dc,.slice (some ⟨vb,0,none⟩) 1 1]).run Tryz.prog W1=.ok (goInt 1) (W1.setRow g (splice Z1 (i*7) (L7 x)).toArray):=fun ty dc=>
  Zct W1 _ _ ty 54 7 g (i*7) _ dc ⟨vb,0,none⟩ 1 1 1 Z1 54 (L7 x) Tryz.underlying22 hsz hg2 (by simp only[Nat.min_def];split<;>omega) rfl
   (fun j v hj=>by
     rw[Addr.add_lit,Nat.zero_add]
     exact hv2.cell j (by rw[←Zc8];simpa using hj))
   (by rw[hz1l,Zah];omega) (ZbC x)
 have HOV:=hdz (fun off lb cb=>Zk5 w vb g off lb cb x cur hv hgB (by omega) hne)
 have HC1:=hdz hcp1;have HC2:=hdz hcp2
 have hc63:c≤9223372036854775807:=by unfold maxLen at hcm;omega
 have HRI:=hdz (show RetIns base w (xs.length+1) (xs.take i++x::xs.drop i)=fun e w'=>∃A c,e=.returned (.slice A (xs.length+1) c)∧Own L7 7 54 w' base (.slice A (xs.length+1) c) (xs.take i++x::xs.drop i)∧Below base w w' from rfl)
 have HEND:=hdz (show Own L7 7 54 (W1.setRow g (splice Z1 (i*7) (L7 x)).toArray) base (.slice (some ⟨g,0,none⟩) (xs.length+1) c) (xs.take i++x::xs.drop i)∧Below base w (W1.setRow g (splice Z1 (i*7) (L7 x)).toArray) by
  have hln:(xs.take i++x::xs.drop i).length=xs.length+1:=by rw[List.length_append,List.length_cons,List.length_take,List.length_drop];omega
  have hd7:((xs.drop i).flatMap L7).length=(xs.length-i)*7:=by rw[Zan Zah,List.length_drop]
  refine⟨⟨Zan Zah _,.inr ⟨g,c,(splice Z1 (i*7) (L7 x)).toArray,by rw[hln],hbg,setRow_heap _ _ _ _ _ _ hg2,by rw[hln];exact hroom,hcm,by simp[];rw[length_splice _ _ _ (by rw[hz1l,Zah];omega),hz1l],?_⟩⟩,?_⟩
  ·rw[hln]
   show(splice Z1 (i*7) (L7 x)).take _=_
   refine ZjA Zah cur.toList xs x i (by omega) (by rw[hcl];omega) (fun j hj=> ?_) _ (by rw[length_splice _ _ _ (by rw[hz1l,Zah];omega),hz1l,hcl]) (fun j=> ?_)
   ·rw[←htk,List.getElem?_take_of_lt (by omega)]
   ·rw[Zbo _ _ _ (by rw[hz1l,Zah];omega),Zah]
    by_cases h1:j<i*7
    ·rw[if_pos h1,if_pos h1,hZ1,Zbo _ _ _ (by rw[hd7,hcl];omega),if_pos (by omega)]
    ·rw[if_neg h1,if_neg h1]
     by_cases h2:j<i*7+7
     ·rw[if_pos h2,if_pos (by omega)]
     ·rw[if_neg h2,if_neg (by omega),hZ1,Zbo _ _ _ (by rw[hd7,hcl];omega),if_neg (by omega),hd7]
      by_cases h3:j<(i+1)*7+(xs.length-i)*7
      ·rw[if_pos h3,if_pos (by omega)]
      ·rw[if_neg h3,if_neg (by omega)]
  ·rw[hW1]
   exact below_setRow (below_setRow (Below.refl _ w).drew hbg _) hbg _)
 generalize RetIns base w (xs.length+1) (xs.take i++x::xs.drop i)=post at*
 generalize W1.setRow g (splice Z1 (i*7) (L7 x)).toArray=W2 at*
 obtain⟨n,hn'⟩:∃n,n=xs.length:=⟨_,rfl⟩
 rw[←hn'] at HC1 HC2 HRI HEND hi hroom hn ⊢
 have hw1:IntKind.i64.wrap ((i:Int)+1)=(i:Int)+1:=by rw[IntKind.wrap_i64];omega
 have hb1:(0:Int)≤(i:Int)+1:=by omega
 have htn:((i:Int)+1).toNat=i+1:=by omega
 have hb2:¬(c=i+1):=by omega
 have hb3:(i:Int)≤(n:Int)+1:=by omega
 have hb4:¬(c=i):=by omega
 have hin:¬((i:Int)=(n:Int)):=by omega
 have hin2:i≤n:=by omega
 have HNX:=hdz hn'
 clear hn'
 clear hcp1 hcp2 hW1 hg2 hv2 hz1l hZ1 hg hg1 hgB hfl hcl hcells hcs htk ho hA hxc hv hsz hcm
 go_enter Tryz.func84,Tryz.ntmps84
 go_wp2_with (simp only[HOV.out])
 go_region_law (refine Ze1 rfl (.tmp 73) (.tmp 76) 22 22 rfl (.slice (some ⟨g,(i+1)*7,none⟩) (n-i) (c-(i+1))) (.slice (some ⟨g,i*7,none⟩) (n+1-i) (c-i)) (by simp[Act.eval,Act.put]) (by simp[Act.eval,Act.put]) (HC1.out 3 (c-(i+1)) (c-i)) ?_)
 have hc2:=HC2.out 3 (c-i)
 go_wp2_with fail
 all_goals
  first|go_ret|skip
  rw[HRI.out]
  exact⟨_,_,rfl,HEND.out.1,HEND.out.2⟩
theorem Zk7(g n c i vb base:Nat)(xs:List Lot)(x:Lot)(w:World)(ho:Own L7 7 54 w base (.slice (some ⟨g,0,none⟩) n c) xs)(hv:BlkB w vb (lotC7 x) 54)(hi:i<n)(hroom:c<n+1)(hn:n≤1000000)(hbs:base≤w.heap.size):
 Calls Tryz.prog 84 #[.slice (some ⟨g,0,none⟩) n c,.int .i64 i,.slice (some ⟨vb,0,none⟩) 1 1] w (RetIns base w (n+1) (xs.take i++x::xs.drop i)):=by
 obtain⟨hnx,hxc,hcm,hA⟩:=ho.facts
 have ho2:=ho.2
 rcases ho2 with ⟨hv0,_⟩|⟨g',cap',cur,hv1,hbg,hg,hnc,_,hcs,htk⟩
 ·cases hv0
 injection hv1 with a1 a2 a3
 injection a1 with a1
 injection a1 with a1 _
 subst a1;subst a3
 subst hnx
 have hsz:(Tryz.prog.info? 54).map (·.size)=some 7:=by kernel_rfl
 obtain⟨i0,z0,hu0,hi0,hz0,hs0,hb0,hzs0,_,_⟩:=Zb0
 have hgB:BlkB w g cur 54:=hg
 have hfl:(xs.flatMap L7).length=xs.length*7:=Zan Zah xs
 have hcells:∀(j:Nat) (v:Value),(xs.flatMap L7)[j]?=some v→cur[j]?=some v:=by
  intro j v hj
  rw[←htk,List.getElem?_take] at hj
  split at hj
  ·simpa using hj
  ·cases hj
 have hft:(xs.take i).flatMap L7=(xs.flatMap L7).take (i*7):=ZdY Zah xs i
 have hold:(Builtin.firstCells i0.size i (.slice (some ⟨g,0,none⟩) i c)).run Tryz.prog w.drew=.ok ((xs.take i).flatMap L7).toArray w.drew:=by
  rw[hs0]
  exact run_firstCells_some w.drew 7 i ⟨g,0,none⟩ i c _ (by rw[Zan Zah,List.length_take];rw[Nat.min_eq_left (by omega)]) (fun j v hj=>by
   rw[Addr.add_lit,Nat.zero_add]
   show w.cell? ⟨g,j,none⟩=some v
   rw[hft,List.getElem?_take] at hj
   split at hj
   ·exact hgB.cell j (hcells j v hj)
   ·cases hj)
 have hkk:(xs.length:Int)+1-(i:Int)=((xs.length+1-i:Nat):Int):=by omega
 have hik:i+(xs.length+1-i)=xs.length+1:=by omega
 have hrz:=fun ty=>Lib.run_append_grow_zeros (P:=Tryz.prog) w 22 3 ty 54 i0 z0 .i64 .i64 Tryz.underlying22 Tryz.underlying3 hi0 hz0 (some ⟨g,0,none⟩) i c _ hold (xs.length+1-i) (by omega) (by omega) (by omega) (by omega) (by rw[hb0];omega) (by rw[hb0,hik];exact growslice_fits hroom (by omega))
 rw[hik] at hrz
 obtain⟨G,hG⟩:∃G,G=grownCap w (xs.length+1) c 54:=⟨_,rfl⟩
 have hGn:xs.length+1≤G:=by rw[hG];exact grownCap_ge w _ _ _
 have hGm:G≤maxLen:=by rw[hG];exact grownCap_le_maxLen w _ _ _ (by unfold maxLen;omega)
 rw[←hG] at hrz
 obtain⟨R,hR⟩:∃R:Array Value,R=((xs.take i).flatMap L7).toArray++Builtin.zeroCells z0.cells (xs.length+1-i)++Builtin.zeroCells z0.cells (G-(xs.length+1)):=⟨_,rfl⟩
 rw[←hR] at hrz
 have hzl:∀k,(Builtin.zeroCells z0.cells k).size=k*7:=fun k=>by simp[Builtin.zeroCells,hzs0]
 have hRs:R.size=G*7:=by
  rw[hR,Array.size_append,Array.size_append,hzl,hzl]
  simp only[List.size_toArray]
  rw[Zan Zah,List.length_take,Nat.min_eq_left (by omega)]
  omega
 have hRpre:∀j,j<i*7→R.toList[j]?=(xs.flatMap L7)[j]?:=by
  intro j hj
  rw[hR]
  simp only[Array.toList_append]
  rw[List.getElem?_append_left (by rw[List.length_append,Zan Zah,List.length_take];omega),List.getElem?_append_left (by rw[Zan Zah,List.length_take];omega),hft,List.getElem?_take_of_lt hj]
 clear hG hR hold
 obtain⟨W1,hW1⟩:∃W1,W1=w.drew.alloc (.cells R 54):=⟨_,rfl⟩
 rw[←hW1] at hrz
 have hgw:g<w.heap.size:=hgB.lt
 have hvw:vb<w.heap.size:=hv.lt
 have hp1:W1.heap[w.heap.size]?=some (.cells R.toList.toArray 54 (0,0)):=by rw[hW1,Array.toArray_toList];exact heap_alloc_new w.drew _
 have hg1:BlkB W1 g cur 54:=by rw[hW1];exact BlkB.alloc (w:=w.drew) hgB _
 have hv1:BlkB W1 vb (lotC7 x) 54:=by rw[hW1];exact BlkB.alloc (w:=w.drew) hv _
 have hrl:R.toList.length=G*7:=by simpa using hRs
 have hcp1:∀ty dc,(Builtin.copy_ #[22,22] ty #[.slice (some ⟨w.heap.size,i*7,none⟩) (xs.length+1-i) dc,.slice (some ⟨vb,0,none⟩) 1 1]).run Tryz.prog W1=.ok (goInt 1) (W1.setRow w.heap.size (splice R.toList (i*7) (L7 x)).toArray):=fun ty dc=>
  Zct W1 _ _ ty 54 7 w.heap.size (i*7) _ dc ⟨vb,0,none⟩ 1 1 1 R.toList 54 (L7 x) Tryz.underlying22 hsz hp1 (by simp only[Nat.min_def];split<;>omega) rfl
   (fun j v hj=>by
     rw[Addr.add_lit,Nat.zero_add]
     exact hv1.cell j (by rw[←Zc8];simpa using hj))
   (by rw[hrl,Zah];omega) (ZbC x)
 obtain⟨Z1,hZ1⟩:∃Z1,Z1=splice R.toList (i*7) (L7 x):=⟨_,rfl⟩
 have hz1l:Z1.length=G*7:=by rw[hZ1,length_splice _ _ _ (by rw[hrl,Zah];omega),hrl]
 rw[←hZ1] at hcp1
 obtain⟨W2,hW2⟩:∃W2,W2=W1.setRow w.heap.size Z1.toArray:=⟨_,rfl⟩
 rw[←hW2] at hcp1
 have hp2:W2.drew.heap[w.heap.size]?=some (.cells Z1.toArray 54 (0,0)):=by rw[hW2];exact setRow_heap _ _ _ _ _ _ hp1
 have hg2:BlkB W2.drew g cur 54:=by rw[hW2];exact(setRow_other _ _ _ _ (by omega)).trans hg1
 have hd7:((xs.drop i).flatMap L7).length=(xs.length-i)*7:=by rw[Zan Zah,List.length_drop]
 have hcp2:∀ty dc sc,(Builtin.copy_ #[22,22] ty #[.slice (some ⟨w.heap.size,(i+1)*7,none⟩) (xs.length-i) dc,.slice (some ⟨g,i*7,none⟩) (xs.length-i) sc]).run Tryz.prog W2.drew=.ok (goInt (xs.length-i:Nat)) (W2.drew.setRow w.heap.size (splice Z1 ((i+1)*7) ((xs.drop i).flatMap L7)).toArray):=fun ty dc sc=>
  Zct W2.drew _ _ ty 54 7 w.heap.size ((i+1)*7) _ dc ⟨g,i*7,none⟩ _ sc (xs.length-i) Z1 54 ((xs.drop i).flatMap L7) Tryz.underlying22 hsz hp2 (by simp) hd7
   (fun j v hj=>by
     rw[Addr.add_lit]
     show W2.drew.cell? ⟨g,i*7+j,none⟩=some v
     exact hg2.cell (i*7+j) (hcells (i*7+j) v (by
      have e:(xs.flatMap L7).drop (i*7)=(xs.drop i).flatMap L7:=by
       conv=>lhs;rw[←List.take_append_drop i xs,List.flatMap_append]
       rw[List.drop_append_of_le_length (by rw[Zan Zah,List.length_take];omega),List.drop_eq_nil_of_le (by rw[Zan Zah,List.length_take];omega),List.nil_append]
      rw[←e,List.getElem?_drop] at hj
      exact hj)))
   (by rw[hd7,hz1l];omega) (fun v hv=>by
     obtain⟨y,_,hy⟩:=List.mem_flatMap.1 hv
     exact ZbC y v hy)
 have HRI:=hdz (show RetIns base w (xs.length+1) (xs.take i++x::xs.drop i)=fun e w'=>∃A c,e=.returned (.slice A (xs.length+1) c)∧Own L7 7 54 w' base (.slice A (xs.length+1) c) (xs.take i++x::xs.drop i)∧Below base w w' from rfl)
 have HEND:=hdz (show Own L7 7 54 (W2.drew.setRow w.heap.size (splice Z1 ((i+1)*7) ((xs.drop i).flatMap L7)).toArray) base (.slice (some ⟨w.heap.size,0,none⟩) (xs.length+1) G) (xs.take i++x::xs.drop i)∧Below base w (W2.drew.setRow w.heap.size (splice Z1 ((i+1)*7) ((xs.drop i).flatMap L7)).toArray) by
  have hln:(xs.take i++x::xs.drop i).length=xs.length+1:=by rw[List.length_append,List.length_cons,List.length_take,List.length_drop];omega
  refine⟨⟨Zan Zah _,.inr ⟨w.heap.size,G,(splice Z1 ((i+1)*7) ((xs.drop i).flatMap L7)).toArray,by rw[hln],hbs,setRow_heap _ _ _ _ _ _ hp2,by rw[hln];exact hGn,hGm,by rw[List.size_toArray,length_splice _ _ _ (by rw[hz1l,hd7];omega),hz1l],?_⟩⟩,?_⟩
  ·rw[hln]
   show(splice Z1 ((i+1)*7) ((xs.drop i).flatMap L7)).take _=_
   refine ZjA Zah R.toList xs x i (by omega) (by rw[hrl];omega) hRpre _ (by rw[length_splice _ _ _ (by rw[hz1l,hd7];omega),hz1l,hrl]) (fun j=> ?_)
   rw[Zbo _ _ _ (by rw[hz1l,hd7];omega),hd7]
   by_cases h1:j<i*7
   ·rw[if_pos h1,if_pos (by omega),hZ1,Zbo _ _ _ (by rw[hrl,Zah];omega),if_pos h1]
   ·rw[if_neg h1]
    by_cases h2:j<(i+1)*7
    ·rw[if_pos h2,if_pos h2,hZ1,Zbo _ _ _ (by rw[hrl,Zah];omega),if_neg h1,Zah,if_pos (by omega)]
    ·rw[if_neg h2,if_neg h2]
     by_cases h3:j<(xs.length+1)*7
     ·rw[if_pos h3,if_pos (by omega)]
     ·rw[if_neg h3,if_neg (by omega),hZ1,Zbo _ _ _ (by rw[hrl,Zah];omega),if_neg h1,Zah,if_neg (by omega)]
  ·rw[hW2,hW1]
   exact below_setRow (below_setRow (((Below.refl base w).drew.alloc (by exact hbs) _)) hbs _).drew hbs _)
 generalize RetIns base w (xs.length+1) (xs.take i++x::xs.drop i)=post at*
 generalize W2.drew.setRow w.heap.size (splice Z1 ((i+1)*7) ((xs.drop i).flatMap L7)).toArray=W3 at*
 rw[hkk.symm] at hrz
 have HA1:=hdz hrz;have HC1:=hdz hcp1;have HC2:=hdz hcp2
 clear hrz hcp1 hcp2 hRpre hRs hrl hzl
 obtain⟨n,hn'⟩:∃n,n=xs.length:=⟨_,rfl⟩
 rw[←hn'] at HA1 HC1 HC2 HRI HEND hi hroom hn hGn ⊢
 have HNX:=hdz hn'
 clear hn'
 have hw1:IntKind.i64.wrap ((i:Int)+1)=(i:Int)+1:=by rw[IntKind.wrap_i64];omega
 have hb1:(0:Int)≤(i:Int)+1:=by omega
 have htn:((i:Int)+1).toNat=i+1:=by omega
 have hG63:G≤9223372036854775807:=by unfold maxLen at hGm;omega
 have hc63:c≤9223372036854775807:=by omega
 have hb2:¬(G=i+1):=by omega
 have hb3:(i:Int)≤(n:Int):=by omega
 have hb4:¬(G=i):=by omega
 have hb5:¬(c=i):=by have:=HNX.out;omega
 have hb6:i≤c:=by have:=HNX.out;omega
 have hb7:n≤c:=by have:=HNX.out;omega
 have hin:¬((i:Int)=(n:Int)):=by omega
 have hin2:i≤n:=by omega
 clear hW1 hW2 hp1 hp2 hg1 hg2 hv1 hz1l hZ1 hg hgB hfl hcells hcs htk ho hA hxc hv hsz hcm hkk hik hd7 hft hGm hu0 hi0 hz0 hs0 hb0 hzs0
 have hc1:=HC1.out 3 (G-i)
 go_enter Tryz.func84,Tryz.ntmps84
 go_wp2_with (at_builtin;refine Lib.wpList_append_run _ rfl _ _ _ _ rfl _ _ rfl rfl _ _ (HA1.out 22) ?_)
 go_region_law (refine Ze1 rfl (.tmp 50) (.tmp 53) 22 22 rfl (.slice (some ⟨w.heap.size,(i+1)*7,none⟩) (n-i) (G-(i+1))) (.slice (some ⟨g,i*7,none⟩) (n-i) (c-i)) (by simp[Act.eval,Act.put]) (by simp[Act.eval,Act.put]) (HC2.out 3 (G-(i+1)) (c-i)) ?_)
 go_wp2_with fail
 all_goals
  first|go_ret|skip
  rw[HRI.out]
  exact⟨_,_,rfl,HEND.out.1,HEND.out.2⟩
end
end Go.Proofs.YtpnncoinlopndaaGreatDoor
