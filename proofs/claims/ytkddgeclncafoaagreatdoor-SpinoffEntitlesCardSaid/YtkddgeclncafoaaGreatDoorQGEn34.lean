/- Ss2, Ss4, Sq0, En. -/
import Derived.Test.YtkddgeclncafoaaGreatDoorQGEn25
import Derived.Test.YtkddgeclncafoaaGreatDoorQGEn29
import Derived.Test.YtkddgeclncafoaaGreatDoorQGEn42
set_option maxRecDepth 100000
set_option maxHeartbeats 8000000
namespace Go.Proofs.YtkddgeclncafoaaGreatDoor
open Go.Lib renaming hid→jq
section
open Go.RowKit Go.Shelf
attribute [local go_sem] Oper.semAt_some
attribute [local go_sem ↓] Go.wp_at_zero Go.wp_at_succ Xz
theorem ZjL:Jz Tryz.prog 36 24 1 16:=VQ Tryz.underlying36 (by kernel_rfl) (by decide) (by decide)
theorem Znz{W:World}{base g:Nat}{u:Value}{xs:List (List UInt8)}(h:Own S1 1 24 W base u xs)(hg:u.ownBlock=some g):base<=g:=by
 obtain⟨A,c,rfl,_,_,_,h5⟩:=h.form
 exact(h5 g hg).2.1
def XW(ls:List Lot)(f:Fct):Int:=rnd (f.share.rat*((QZ ls f.inst (fun z=>val z.c):Int):Rat))
def XR(ls:List Lot)(f:Fct):List Int×Int:=
 if XF ls f=false then([],1)
 else if QN (Qa (XW ls f)) ((Qf ls f.inst).map (·.c))≠0 then((Qf ls f.inst).map (fun _=>0),0)
 else(Xs (XW ls f) ((Qf ls f.inst).map (fun z=>val z.c)),0)
def VA(r:List Int×Int)(w:World)(e:Ending)(w':World):Prop:=
 ∃A c,e=.returned (.tuple #[.slice A r.1.length c,.int .i64 r.2])/\Yu w' w'.1.size A r.1.length (r.1.map Qa)/\(∀a:Addr,A=some a->w.1.size<=a.block)/\Below w.1.size w w'
theorem Zde{f:Fct}(h:Vy f=0):Qx false true f.share=0:=by
 unfold Vy at h
 by_cases h1:Xy f=0
 ·rw[if_neg (by simpa using h1)] at h
  have hk:f.kind=9:=by
   by_cases h2:f.kind=9
   ·exact h2
   ·rw[if_pos h2] at h;cases h
  unfold Xy at h1
  split at h1
  ·cases h1
  split at h1
  ·cases h1
  split at h1
  ·split at h1
   ·rename_i e
    have:=congrArg Fct.kind e
    simp only at this
    omega
   ·cases h1
  split at h1
  ·cases h1
  rw[hk] at h1;have hr:QM 9=some ⟨1,[(7,false,false),(8,true,false),(9,false,true)],[0,1],false⟩:=rfl;rw[hr] at h1;simp only at h1
  have key:∀(n i:Nat),i<=9->9<i+n->Yo f ⟨1,[(7,false,false),(8,true,false),(9,false,true)],[0,1],false⟩ i n=0->QC f ⟨1,[(7,false,false),(8,true,false),(9,false,true)],[0,1],false⟩ 9=0:=by
   intro n
   induction n with
   |zero=>intro i h1 h2;omega
   |succ n ih=>
    intro i hi hn hz;unfold Yo at hz
    by_cases e:i=9
    ·subst e;rw[if_pos (by rfl)] at hz
     split at hz
     ·rename_i h0;exact absurd hz h0
     ·rename_i h0;simpa using h0
    ·split at hz
     ·split at hz
      ·rename_i h0;exact absurd hz h0
      ·exact ih (i+1) (by omega) (by omega) hz
     ·split at hz
      ·cases hz
      ·exact ih (i+1) (by omega) (by omega) hz
  exact key 13 0 (by omega) (by omega) h1
 ·rw[if_pos h1] at h;exact absurd h h1
theorem Zdf{g:Fr}(h:Qx false true g=0):0<=g.rat/\g.rat<=1:=by
 unfold Qx at h
 split at h
 ·cases h
 split at h
 ·cases h
 split at h
 ·cases h
 rename_i h3
 simp at h3;exact⟨Rat.not_lt.1 h3.1,Rat.not_lt.1 h3.2⟩
theorem Zl6{ls:List Lot}{i:List UInt8}(hl:∀x∈ls,x.c.length<=13)(hn:ls.length<=1002):(QZ ls i (fun z=>val z.c)).natAbs<10^18:=by
 have h:=Vz (g:=(·.c)) (l:=Qf ls i) (L:=13) (fun x hx=>hl x (List.mem_filter.1 hx).1) (Nat.le_trans (List.length_filter_le _ _) (by omega));have:=Qv (a:=Qa (XA (·.c) (Qf ls i))) (L:=18) h
 rwa [Qc] at this
theorem Ze7(l:List Int)(n:Nat)(hl:∀x∈l,x=0):QA l n 0=QA l n n:=by
 unfold QA
 congr 1
 refine List.map_congr_left fun j hj=> ?_
 rw[if_neg (by omega),if_pos (List.mem_range.1 hj)]
 have h0:l.getD j 0=0:=by
  rw[List.getD_eq_getElem?_getD]
  cases h:l[j]? with
  |none=>rfl
  |some x=>exact hl x (List.mem_of_getElem? h)
 rw[h0];rfl
theorem Zaa{W:World}{p n:Nat}{l:List Int}(h:BlkB W p (QA l n n) 24)(hn:l.length=n):Yu W W.1.size (some ⟨p,0,none⟩) n (l.map Qa):=by
 refine⟨by rw[List.length_map,hn],fun _=>⟨p,0,rfl,h.lt,fun j z hj k u hk=> ?_⟩⟩;obtain⟨hj1,hj2⟩:=List.getElem?_eq_some_iff.1 hj
 rw[List.length_map] at hj1;have hk0:k=0:=by have:=(List.getElem?_eq_some_iff.1 hk).1;rw[Vu] at this;omega
 subst hk0;have hu:u=.string ⟨z.toArray⟩:=by simpa[S1,S] using hk.symm
 have hz:z=Qa (l.getD j 0):=by
  rw[<-hj2,List.getElem_map,List.getD_eq_getElem?_getD,List.getElem?_eq_getElem hj1];rfl
 rw[hu,hz,Nat.zero_add,Nat.mul_one,Nat.add_zero];exact h.cell j (by rw[XL _ _ _ _ (by omega),if_pos (by omega)])
theorem ZjM(A:Option Addr)(n c:Nat)(ls:List Lot)(f:Fct)(v:FaV)(w:World)(hp:Env w)(hs:YI w w.1.size A n ls)(hl:∀x∈ls,x.Sz 50000)(hc:∀x∈ls,x.c.length<=13)(hn:n<=1002)(hf:f.Sz 1000)(hsh:f.share.Sz 13)(hm:FaM w w.1.size f v)(hpn:v.pn<=100000)(hon:v.on<=100000):
 Calls Tryz.prog 8 #[.slice A n c,.agg (Qk f v)] w (VA (XR ls f) w):=by
 have HPO:=jq (show VA (XR ls f) w=fun e w'=>∃A c,e=.returned (.tuple #[.slice A (XR ls f).1.length c,.int .i64 (XR ls f).2])/\Yu w' w'.1.size A (XR ls f).1.length ((XR ls f).1.map Qa)/\(∀a:Addr,A=some a->w.1.size<=a.block)/\Below w.1.size w w' from rfl);generalize VA (XR ls f) w=post at*;have H:=jq ((Kp.start hp).new w.1.size rfl (Qk f v) 30);have hll:=QD (H.out.at_ 0 rfl) (QJ f v);have hls:ls.length<=1002:=by rw[<-hs.1];exact hn
 have hlo:(Qf ls f.inst).length<=1002:=Nat.le_trans (List.length_filter_le _ _) hls;have htot:=Zl6 (i:=f.inst) hc hls;have HVA:=jq (fun W (hb:Below w.1.size w W)=>Zb3 A n c ls f v W (hp.here hb) (hs.here hb) hl (by omega) hf (hm.here hb) hpn hon);have HLO:=jq (fun W (hb:Below w.1.size w W)=>ZjG A n c ls f.inst W (hs.here hb) (by omega));have HTO:=jq (fun W (hb:Below w.1.size w W)=>Zef A n c ls f.inst W (hp.here hb) (hs.here hb) (by omega) (fun x hx=>(hl x hx).q) (fun x hx=>(hl x hx).c));have r1:RB 18 ((QZ ls f.inst (fun z=>val z.c):Int):Rat):=ZaU htot (by omega);have r2:RB 18 f.share.rat:=Zcq (hsh.more (by omega)) (by omega);have r3:=Ze5 r2 r1;have hmv:(XW ls f).natAbs<10^39:=Zl3 r3 (by omega);have HOF:=jq (fun W (hp:Env W)=>Zch (Qa (QZ ls f.inst (fun z=>val z.c))) W hp.pow (by have:=Qg htot;omega));rw[Qc] at HOF;have HMU:=jq (fun W (hp:Env W)=>Za6 f.share (Qd ((QZ ls f.inst (fun z=>val z.c):Int):Rat)) W hp.pow (hsh.more (by omega)) ((QV r1).more (by omega)));rw[Qj] at HMU;have HRO:=jq (fun W (hp:Env W)=>ZiW (Qd (f.share.rat*((QZ ls f.inst (fun z=>val z.c):Int):Rat))) ((QV r3).more (by omega)) W hp);rw[Qj,show rnd (f.share.rat*((QZ ls f.inst (fun z=>val z.c):Int):Rat))=XW ls f from rfl] at HRO
 have HCP:=jq (show XR ls f=if XF ls f=false then([],1)
  else if QN (Qa (XW ls f)) ((Qf ls f.inst).map (·.c))≠0 then((Qf ls f.inst).map (fun _=>0),0)
  else(Xs (XW ls f) ((Qf ls f.inst).map (fun z=>val z.c)),0) from rfl)
 have HMV:=jq (show XF ls f=true->0<=XW ls f from fun h=>by
  unfold XF at h;rw[Bool.and_eq_true,decide_eq_true_eq,decide_eq_true_eq] at h;have h1:=(Zdf (Zde h.2)).1;have h2:=(Zcr [] ls).1 (by have:=h.1;unfold Vm at this;split at this<;>first|(cases this;done)|exact this);refine Vp (Rat.mul_nonneg h1 ?_)
  have:0<=QZ ls f.inst (fun z=>val z.c):=by
   unfold QZ;refine QI ?_;intro x hx;obtain⟨z,hz,rfl⟩:=List.mem_map.1 hx
   exact(h2.1 z (List.mem_filter.1 hz).1).c0
  exact_mod_cast this)
 have HFB:=jq (QJ f v);have K5:=jq (show(Qk f v)[5]?=some (.string ⟨f.inst.toArray⟩) from rfl);have K16:=jq (show(Qk f v)[16]?=some (.string ⟨f.share.n.toArray⟩) from rfl);have K17:=jq (show(Qk f v)[17]?=some (.string ⟨f.share.d.toArray⟩) from rfl);have HLL:=jq hlo
 have HLC:=jq (show ∀x∈(Qf ls f.inst).map (·.c),x.length<=1000 from fun x hx=>by
  obtain⟨z,hz,rfl⟩:=List.mem_map.1 hx
  have:=hc z (List.mem_filter.1 hz).1
  omega)
 have HMM:=jq hmv;have HP:=jq hp;generalize XR ls f=res at*;generalize XW ls f=mv at*;generalize XF ls f=vb at*;generalize Qd (f.share.rat*((QZ ls f.inst (fun z=>val z.c):Int):Rat))=fm at*;generalize Qd ((QZ ls f.inst (fun z=>val z.c):Int):Rat)=ft at*;generalize Qa (QZ ls f.inst (fun z=>val z.c))=tt at*;generalize Qa (QZ ls f.inst (fun z=>val z.q))=tq at*;generalize Qf ls f.inst=lo at*;generalize Qk f v=fb at*;clear hp hs hl hc hn hf hsh hm hpn hon hls hlo htot r1 r2 r3 hmv;unfold Vc Qh Qq S at*
 cases vb with
 |false=>
  rw[if_pos rfl] at HCP;have HCP2:=jq HCP.out;go_enter Tryz.func8,Tryz.ntmps8
  go_wp2_with fail
  refine(HVA.out _ H.out.bl).mono ?_;rintro e w1 ⟨rfl,hb1⟩;go_wp2_with fail
  first|go_ret|go_ret2|skip
  rw[HPO.out,HCP.out];exact⟨none,0,rfl,Sl.nil,(fun _ h=>by cases h),(H.out.here hb1).bl⟩
 |true=>
 rw[if_neg (by decide)] at HCP;have HM0:=jq (HMV.out rfl);clear HMV;go_enter Tryz.func8,Tryz.ntmps8
 go_wp2_with fail
 refine(HVA.out _ H.out.bl).mono ?_;rintro e w1 ⟨rfl,hb1⟩;have H1:=jq (H.out.here hb1);have x5:=H1.out.c 0 5 rfl K5.out;clear hll H hb1 HVA;go_wp2_with fail
 refine(HLO.out _ H1.out.bl).mono ?_;rintro e w2 ⟨A2,c2,rfl,ho2,hb2⟩;have H2:=jq (H1.out.here hb2);have HL2:=jq (ho2.sl Zbt);clear x5 ho2 hb2 H1 HLO;have HO0:=jq (show Own S1 1 24 w2 w2.1.size (.slice none 0 0) ([]:List (List UInt8)) from Own.nil);go_wp2_with fail
 go_loopw [6,8,24] (fun s _ i wr=>∃(k:Nat) (A1:Option Addr) (c1:Nat),k<=lo.length/\i=.int .i64 k/\s=.slice A1 ((lo.take k).map (·.c)).length c1/\Hid (Own S1 1 24 wr w2.1.size (.slice A1 ((lo.take k).map (·.c)).length c1) ((lo.take k).map (·.c)))/\Hid (Below w2.1.size w2 wr)) (fun _ _ i _=>lo.length-(intOf i).toNat)
 case atStart=>exact⟨0,none,0,Nat.zero_le _,rfl,rfl,HO0.out,Below.refl _ _⟩
 case round=>
  obtain⟨k,A1,c1,hk,rfl,rfl,HOW,HBR⟩:=hrel
  have hlm:=HLL.out
  by_cases hlt:k<lo.length
  ·obtain⟨b,off,y,rfl,hb,hy,d0,d1,d2,d3,d4,d5,d6⟩:=(HL2.out.below HBR.out).lot7 hlt
   have HTK:=jq (show(lo.take (k+1)).map (·.c)=(lo.take k).map (·.c)++[y.c] by
    obtain⟨h1,h2⟩:=List.getElem?_eq_some_iff.1 hy
    rw[List.take_succ_eq_append_getElem h1,h2,List.map_append];rfl)
   clear hy;have HLN:=jq (show((lo.take k).map (·.c)).length+1<=100000000000 by have:=HLL.out;simp;omega);have HA1:=jq (HBR.out.alloc HBR.out.size (.cells #[.string ⟨y.id.toArray⟩,.string ⟨y.inst.toArray⟩,.int .i64 y.acq,.int .i64 y.opn,.string ⟨y.q.toArray⟩,.string ⟨y.c.toArray⟩,.string ⟨y.u.toArray⟩] 50));have HO1:=jq (HOW.out.alloc (.cells #[.string ⟨y.id.toArray⟩,.string ⟨y.inst.toArray⟩,.int .i64 y.acq,.int .i64 y.opn,.string ⟨y.q.toArray⟩,.string ⟨y.c.toArray⟩,.string ⟨y.u.toArray⟩] 50));have HBX:=jq (show BlkB (wr.alloc (.cells #[.string ⟨y.id.toArray⟩,.string ⟨y.inst.toArray⟩,.int .i64 y.acq,.int .i64 y.opn,.string ⟨y.q.toArray⟩,.string ⟨y.c.toArray⟩,.string ⟨y.u.toArray⟩] 50)) wr.1.size #[.string ⟨y.id.toArray⟩,.string ⟨y.inst.toArray⟩,.int .i64 y.acq,.int .i64 y.opn,.string ⟨y.q.toArray⟩,.string ⟨y.c.toArray⟩,.string ⟨y.u.toArray⟩] 50 from heap_alloc_new wr _);generalize hkl:(lo.take k).map (·.c)=kl at*;have HKL:=jq hkl;clear hkl;go_upto_region 7 with (fail)
   clear d0 d1 d2 d3 d4 d5 d6;generalize wr.alloc _=W1 at*;generalize hbx:wr.1.size=bx at*;clear hbx;have x5:=HBX.out.cell 5 rfl;have HA2:=jq (HA1.out.alloc HA1.out.size (.cells #[.string ⟨y.c.toArray⟩] 24));have HO2:=jq (HO1.out.alloc (.cells #[.string ⟨y.c.toArray⟩] 24));have HSL:=jq (show Yu (W1.alloc (.cells #[.string ⟨y.c.toArray⟩] 24)) (W1.1.size+1) (some ⟨W1.1.size,0,none⟩) 1 [y.c] from Sl.lit W1 _ 24 [y.c] rfl Vu)
   go_wp2_with (at_builtin;refine Xa _ rfl (.tmp 28) (.tmp 31) _ rfl ZjL Vu Za8 (base:=w2.1.size) (.slice A1 kl.length c1) kl rfl HO2.out _ _ 1 1 [y.c] rfl HSL.out HLN.out HA2.out.size ?_
                intro A4 c4 w4 ho4 hg4 _)
   go_roundw
   case rel=>
    exact⟨k+1,A4,c4,by omega,by go_num,by rw[HTK.out];simp,(show Own _ _ _ _ _ _ _ by rw[HTK.out];simpa using ho4),Qy HA2.out hg4 HA2.out.size (fun g hg=>Znz HO2.out hg)⟩
   case measure=>simp[intOf];omega
  ·have ek:(lo.take k).map (·.c)=lo.map (·.c):=by rw[List.take_of_length_le (by omega)]
   rw[ek] at HOW ⊢;clear ek;have H3:=jq (H2.out.here HBR.out);have HST:=jq (show Yu wr wr.1.size A1 (lo.map (·.c)).length (lo.map (·.c)) from HOW.out.sl Vu);clear HOW H2 HBR HL2 HO0;generalize hcl:lo.map (·.c)=cl at*;have x5:=H3.out.c 0 5 rfl K5.out;go_wp2_with fail
   refine(HTO.out _ H3.out.bl).mono ?_;rintro e w4 ⟨rfl,hb4⟩;have H4:=jq (H3.out.here hb4);have HS4:=jq (HST.out.here hb4);clear x5 hb4 H3 HST;go_upto_region 10 with (fail)
   have hS:=jq (fun V (h:Bz w4 V)=>(show V.cell? ⟨w.1.size,16,none⟩=some (.string ⟨f.share.n.toArray⟩)/\V.cell? ⟨w.1.size,17,none⟩=some (.string ⟨f.share.d.toArray⟩) from⟨(H4.out.here h).c 0 16 rfl K16.out,(H4.out.here h).c 0 17 rfl K17.out⟩));have hE:=jq (fun V (h:Bz w4 V)=>(H4.out.here h).pw)
   go_cut [11] (fun u wc=>u=.string ⟨(Qa mv).toArray⟩/\Hid (Bz w4 wc))
   case first=>
    go_region_held3 (fun V=>V.cell? ⟨w.1.size,16,none⟩=some (.string ⟨f.share.n.toArray⟩)/\V.cell? ⟨w.1.size,17,none⟩=some (.string ⟨f.share.d.toArray⟩))
     (first
       |exact hS.out _ (by repeat' (first|assumption|exact Bz.refl _|refine Bz.drew ?_|refine Bz.alloc ?_ _|refine Bz.set ?_ (by first|assumption|exact Nat.le_refl _|exact Bz.size (by assumption)) _ _))
       |go_keep)
     (first
       |(go_at_call 25;refine(HOF.out _ (hE.out _ (by repeat' (first|assumption|exact Bz.refl _|refine Bz.drew ?_|refine Bz.alloc ?_ _|refine Bz.set ?_ (by first|assumption|exact Nat.le_refl _|exact Bz.size (by assumption)) _ _)))).mono ?_;rintro e v1 ⟨rfl,hb1⟩;have hz1:Bz w4 v1:=Bz.call (by repeat' (first|assumption|exact Bz.refl _|refine Bz.drew ?_|refine Bz.alloc ?_ _|refine Bz.set ?_ (by first|assumption|exact Nat.le_refl _|exact Bz.size (by assumption)) _ _)) hb1)
       |(go_at_call 24;refine(HMU.out _ (hE.out _ (by repeat' (first|assumption|exact Bz.refl _|refine Bz.drew ?_|refine Bz.alloc ?_ _|refine Bz.set ?_ (by first|assumption|exact Nat.le_refl _|exact Bz.size (by assumption)) _ _)))).mono ?_;rintro e v2 ⟨rfl,hb2⟩;have hz2:Bz w4 v2:=Bz.call (by repeat' (first|assumption|exact Bz.refl _|refine Bz.drew ?_|refine Bz.alloc ?_ _|refine Bz.set ?_ (by first|assumption|exact Nat.le_refl _|exact Bz.size (by assumption)) _ _)) hb2)
       |(go_at_call 23;refine(HRO.out _ (hE.out _ (by repeat' (first|assumption|exact Bz.refl _|refine Bz.drew ?_|refine Bz.alloc ?_ _|refine Bz.set ?_ (by first|assumption|exact Nat.le_refl _|exact Bz.size (by assumption)) _ _)))).mono ?_;rintro e v3 ⟨rfl,hb3⟩;have hz3:Bz w4 v3:=Bz.call (by repeat' (first|assumption|exact Bz.refl _|refine Bz.drew ?_|refine Bz.alloc ?_ _|refine Bz.set ?_ (by first|assumption|exact Nat.le_refl _|exact Bz.size (by assumption)) _ _)) hb3))
    all_goals
     go_wp2_with fail
     go_meet
     exact⟨rfl,hz3⟩
   case rest=>
   obtain⟨rfl,HZ⟩:=hcut
   have H5:=jq (H4.out.here HZ.out);have HS5:=jq (HS4.out.here HZ.out);clear HZ hS hE H4 HS4 HOF HMU HRO HTO;have HNC:=jq (show cl.length<=1000000 by rw[<-hcl];simp;omega);have HTL:=jq (show(Qa mv).length<=1000 by have:=Qg HMM.out;omega);have HCV:=jq (show cl.map val=lo.map (fun z=>val z.c) by rw[<-hcl,List.map_map];rfl);have HCN:=jq (show cl.length=lo.length by rw[<-hcl];simp);rw[<-HCV.out] at HCP
   by_cases hc0:QN (Qa mv) cl=0
   ·rw[if_neg (by simpa using hc0)] at HCP;have hsp:=hc0;unfold QN at hsp
    split at hsp
    ·cases hsp
    rename_i s1
    split at hsp
    ·cases hsp
    rename_i s2
    split at hsp
    ·cases hsp
    rename_i s3
    split at hsp
    ·cases hsp
    rename_i s4
    have hw0:∀x∈cl,0<=val x:=fun x hx=>by
     refine Int.not_lt.1 fun h=>s3 (.inr (List.any_eq_true.2 ⟨x,hx,?_⟩))
     simp[h]
    have hsv:0<Qz cl:=by
     have h1:0<=Qz cl:=by
      unfold Qz;refine QI fun x hx=> ?_
      obtain⟨z,hz,rfl⟩:=List.mem_map.1 hx
      exact hw0 z hz
     omega
    have hn0:0<cl.length:=List.length_pos_iff.2 s1;have HSP:=jq (Zi6 (Qa mv) A1 cl.length c1 cl wc H5.out.pw HS5.out HTL.out HLC.out hn0 (by omega) (by rw[Qc]) (by rw[Qc];exact HM0.out) hw0 hsv hc0);rw[Qc] at HSP;unfold YS at HSP;have HPN:=jq (show(Xs mv (cl.map val)).length=cl.length by rw[XX];simp);generalize Xs mv (cl.map val)=ps at*;clear hsp s1 s2 s3 s4 hw0 hsv hn0 hc0;unfold S at HSP;go_wp2_with fail
    refine HSP.out.mono ?_;rintro e w6 ⟨P,rfl,hB,hP,hb6⟩;have HB6:=jq hB;have HPP:=jq (Nat.le_trans H5.out.bl.size hP);clear hB hP;go_wp2_with fail
    first|go_ret2|go_ret|skip
    rw[HPO.out,HCP.out];refine⟨some ⟨P,0,none⟩,cl.length,?_,?_,(fun a h=>by injection h with h;rw[<-h];exact HPP.out),(H5.out.here hb6).bl⟩
    ·show _=Ending.returned (.tuple #[.slice (some ⟨P,0,none⟩) ps.length cl.length,.int .i64 0])
     rw[HPN.out];rfl
    ·show Yu _ _ _ ps.length (ps.map Qa)
     rw[HPN.out];exact Zaa HB6.out HPN.out
   ·rw[if_pos hc0] at HCP;have HSP:=jq (Zi7 (Qa mv) A1 cl.length c1 cl wc H5.out.pw HS5.out HTL.out HLC.out HNC.out hc0);have hr0:(QN (Qa mv) cl==0)=false:=beq_false_of_ne hc0;generalize QN (Qa mv) cl=er at*;have hlc:=HNC.out;have hmk:=run_make_row' (P:=Tryz.prog) 36 24 (.string ⟨#[]⟩) 16 Tryz.underlying36 Zid rfl .i64 .i64 cl.length (by omega) (by omega);rw[Yv (lo.map (fun _=>(0:Int))),Ze7 (lo.map (fun _=>(0:Int))) cl.length (fun x hx=>by obtain⟨_,_,rfl⟩:=List.mem_map.1 hx;rfl)] at hmk;clear hc0;unfold S at HSP;go_wp2_with fail
    refine HSP.out.mono ?_;rintro e w6 ⟨rfl,hb6⟩;have H6:=jq (H5.out.here hb6);clear hb6;go_wp2_with fail
    first|go_ret2|go_ret|skip
    have HB6:=H6.out.new w6.1.size rfl (QA (lo.map (fun _=>(0:Int))) cl.length cl.length) 24;have hzl:(lo.map (fun _=>(0:Int))).length=cl.length:=by rw[HCN.out];simp
    rw[HPO.out,HCP.out];refine⟨some ⟨w6.1.size,0,none⟩,cl.length,?_,?_,(fun a h=>by injection h with h;rw[<-h];exact H6.out.bl.size),HB6.bl⟩
    ·show _=Ending.returned (.tuple #[.slice (some ⟨w6.1.size,0,none⟩) (lo.map (fun _=>(0:Int))).length cl.length,.int .i64 0])
     rw[hzl];rfl
    ·show Yu _ _ _ (lo.map (fun _=>(0:Int))).length ((lo.map (fun _=>(0:Int))).map Qa)
     rw[hzl];exact Zaa (HB6.at_ 0 rfl) hzl
end
section
def Fct.sh(f:Fct)(g:Fr):Fct:={f with share:=g}
def ZoY:KRow:=⟨1,[(7,false,false),(8,true,false),(9,false,true)],[0,1],false⟩
end
section
open Go.RowKit Go.Shelf
def spM(f:Fct):Mp:=⟨f.key,f.day,f.inst,f.other,f.ratio,f.share,f.price,true⟩
theorem Ze8{p q:Bool}{g:Fr}(h:Qx p q g=0):g.ok/\0<=g.rat/\(p=true->g.rat≠0)/\(q=true->g.rat<=1):=by
 unfold Qx at h
 split at h
 ·cases h
 rename_i h1
 split at h
 ·cases h
 split at h
 ·cases h
 rename_i h3
 exact⟨Classical.not_not.1 h1,Rat.not_lt.1 fun a=>h3 (.inl a),fun a b=>h3 (.inr (.inl ⟨a,b⟩)),fun a=>Rat.not_lt.1 fun b=>h3 (.inr (.inr ⟨a,b⟩))⟩
theorem Zl7(f:Fct)(r:KRow):∀(n i:Nat),Yo f r i n=0->∀j,i<=j->j<i+n->r.has j=true->QC f r j=0:=by
 intro n
 induction n with
 |zero=>intro i _ j h1 h2;omega
 |succ n ih=>
  intro i h j h1 h2 h3;unfold Yo at h
  by_cases e:i=j
  ·subst e;rw[if_pos h3] at h
   split at h
   ·rename_i h0;exact absurd h h0
   ·rename_i h0;exact Classical.not_not.1 h0
  ·split at h
   ·split at h
    ·rename_i h0;exact absurd h h0
    ·exact ih (i+1) h j (by omega) (by omega) h3
   ·split at h
    ·cases h
    ·exact ih (i+1) h j (by omega) (by omega) h3
theorem Zom{f:Fct}(h:Vy f=0):(spM f).Ok:=by
 unfold Vy at h
 by_cases h1:Xy f=0
 ·rw[if_neg (by simpa using h1)] at h
  have hk:f.kind=9:=by
   by_cases h2:f.kind=9
   ·exact h2
   ·rw[if_pos h2] at h;cases h
  unfold Xy at h1
  split at h1
  ·cases h1
  rename_i k1
  split at h1
  ·cases h1
  split at h1
  ·split at h1
   ·rename_i e
    have:=congrArg Fct.kind e
    simp only at this
    omega
   ·cases h1
  split at h1
  ·cases h1
  rename_i k2
  rw[hk] at h1;have h2:Yo f ZoY 0 13=0:=h1;have key:=fun j hj=>Zl7 f ZoY 13 0 h2 j (Nat.zero_le _) hj
  have f0:(if Qp f.inst=false then(23:Int) else 0)=0:=key 0 (by omega) (by rfl);have f1:(if Qp f.other=false then(23:Int) else if f.other=f.inst then 18 else 0)=0:=key 1 (by omega) (by rfl);have f7:Qx false false f.price=0:=key 7 (by omega) (by rfl);have f8:Qx true false f.ratio=0:=key 8 (by omega) (by rfl);have f9:Qx false true f.share=0:=key 9 (by omega) (by rfl);have n7:=Ze8 f7;have n8:=Ze8 f8;have n9:=Ze8 f9
  have b0:Qp f.inst=true:=by
   cases e:Qp f.inst with
   |true=>rfl
   |false=>rw[if_pos e] at f0;cases f0
  have b1:Qp f.other=true:=by
   cases e:Qp f.other with
   |true=>rfl
   |false=>rw[if_pos e] at f1;cases f1
  have b2:f.other≠f.inst:=fun e=>by
   rw[if_neg (by rw[b1];decide),if_pos e] at f1
   cases f1
  have b3:Qp f.key=true:=by simpa using k1
  refine⟨b3,b0,b1,?_,n8.1,n9.1,n7.1,?_,n9.2.1,n9.2.2.2 rfl,n7.2.1,fun _=>b2,fun e=>by cases e⟩
  ·show(decide (-25567<=f.day)&&decide (f.day<=84005))=true
   rw[Bool.and_eq_true,decide_eq_true_eq,decide_eq_true_eq];omega
  ·exact Rat.lt_of_le_of_ne n8.2.1 (Ne.symm (n8.2.2.1 rfl))
 ·rw[if_pos h1] at h;exact absurd h h1
theorem Zgt{ls:List Lot}{f:Fct}(h:XF ls f=true):Vm ls=0/\mpC (spM f)=0:=by
 unfold XF at h;rw[Bool.and_eq_true,decide_eq_true_eq,decide_eq_true_eq] at h;exact⟨h.1,(ZgO _).2 (Zom h.2)⟩
def Jk(ls:List Lot)(f:Fct):Rat:=((QZ ls f.inst (fun z=>val z.q):Int):Rat)*f.ratio.rat
end
section
open Go.RowKit Go.Shelf
attribute [local go_sem] Oper.semAt_some
attribute [local go_sem ↓] Go.wp_at_zero Go.wp_at_succ Xz
def Zab(ls:List Lot)(f:Fct):List UInt8×Fr×Int:=
 if XF ls f=false then([],⟨[],[]⟩,1) else(Qa (QW (Jk ls f)),Qd (Jk ls f-((QW (Jk ls f):Int):Rat)),0)
def Jy(r:List UInt8×Fr×Int)(w:World)(e:Ending)(w':World):Prop:=e=.returned (.tuple #[S r.1,Qq r.2.1,.int .i64 r.2.2])/\Below w.1.size w w'
theorem Ze9(A:Option Addr)(n c:Nat)(ls:List Lot)(f:Fct)(v:FaV)(w:World)(hp:Env w)(hs:YI w w.1.size A n ls)(hl:∀x∈ls,x.Sz 50000)(hq:∀x∈ls,x.q.length<=13)(hn:n<=1002)
 (hf:f.Sz 1000) (h1:f.ratio.Sz 13) (hm:FaM w w.1.size f v) (hpn:v.pn<=100000) (hon:v.on<=100000):
 Calls Tryz.prog 6 #[.slice A n c,.agg (Qk f v)] w (Jy (Zab ls f) w):=by
 have HPO:=jq (show Jy (Zab ls f) w=fun e w'=>e=.returned (.tuple #[S (Zab ls f).1,Qq (Zab ls f).2.1,.int .i64 (Zab ls f).2.2])/\Below w.1.size w w' from rfl);generalize Jy (Zab ls f) w=post at*;have H:=jq (show Kp w [(w.1.size+1,#[.string ⟨#[]⟩,.string ⟨#[]⟩],26),(w.1.size,Qk f v,30)] ((w.alloc (.cells (Qk f v) 30)).alloc (.cells #[.string ⟨#[]⟩,.string ⟨#[]⟩] 26)) from((Kp.start hp).new w.1.size rfl (Qk f v) 30).new (w.1.size+1) (by simp) _ _);have HZ:=jq (QJ f v);have hls:ls.length<=1002:=by rw[<-hs.1];exact hn
 have HVA:=jq (fun W (hb:Below w.1.size w W)=>Zb3 A n c ls f v W (hp.here hb) (hs.here hb) hl (by omega) hf (hm.here hb) hpn hon);have HTO:=jq (fun W (hb:Below w.1.size w W)=>Zef A n c ls f.inst W (hp.here hb) (hs.here hb) (by omega) (fun x hx=>(hl x hx).q) (fun x hx=>(hl x hx).c));have htl:(Qa (QZ ls f.inst (fun z=>val z.q))).length<=18:=Vz (g:=(·.q)) (L:=13) (fun x hx=>hq x (List.mem_filter.1 hx).1) (Nat.le_trans (List.length_filter_le _ _) (by omega))
 have HPA:=jq (fun(hv:XF ls f=true) W (hb:Below w.1.size w W)=>(show Calls Tryz.prog 18 #[S (Qa (QZ ls f.inst (fun z=>val z.q))),Qq f.ratio] W (YA (Jk ls f) W) from by
  obtain⟨a1,a2⟩:=Zgt hv
  have hlok:=(ZhT ls).1 a1;have hmok:=(ZgO _).1 a2;have h0:0<=QZ ls f.inst (fun z=>val z.q):=QI (Jm (Zam hlok f.inst)).1;have h:=Zl8 (Qa (QZ ls f.inst (fun z=>val z.q))) f.ratio W (hp.here hb) (by rw[Qc]) (by omega) hmok.ratio (h1.more (by omega)) (by rw[Qc];exact h0) hmok.r0;rw[Qc] at h;exact h))
 have HEN:=jq (show Zab ls f=if XF ls f=false then([],⟨[],[]⟩,1) else(Qa (QW (Jk ls f)),Qd (Jk ls f-((QW (Jk ls f):Int):Rat)),0) from rfl);have K5:=jq (show(Qk f v)[5]?=some (.string ⟨f.inst.toArray⟩) from rfl);have K14:=jq (show(Qk f v)[14]?=some (.string ⟨f.ratio.n.toArray⟩) from rfl);have K15:=jq (show(Qk f v)[15]?=some (.string ⟨f.ratio.d.toArray⟩) from rfl);generalize Zab ls f=ep at*;generalize Qk f v=fb at*;generalize XF ls f=vb at*;unfold YA Vc at*
 generalize Qa (QZ ls f.inst (fun z=>val z.q))=tq at*;generalize Qa (QZ ls f.inst (fun z=>val z.c))=tc at*;generalize Qa (QW (Jk ls f))=tf at*;generalize Qd (Jk ls f-((QW (Jk ls f):Int):Rat))=ff at*;clear hp hs hl hq hn hf h1 hm hpn hon hls htl;unfold Qq S at*
 have hl0:=QD (H.out.at_ 1 rfl) HZ.out
 cases vb with
 |false=>
  rw[if_pos rfl] at HEN;go_enter Tryz.func6,Tryz.ntmps6
  go_wp2_with fail
  refine(HVA.out _ H.out.bl).mono ?_;rintro e w1 ⟨rfl,hb1⟩;have H1:=jq (H.out.here hb1);clear hl0 hb1 H;have n0:=H1.out.c 0 0 rfl rfl;have n1:=H1.out.c 0 1 rfl rfl;have f0:=H1.out.f 0 0 rfl;have f1:=H1.out.f 0 1 rfl;have HE:=jq ((H1.out.set 0 0 rfl (.string ⟨#[]⟩)).set 0 1 rfl (.string ⟨#[]⟩));go_wp2_with fail
  have r0:=HE.out.c 0 0 rfl rfl;have r1:=HE.out.c 0 1 rfl rfl;refine bodyPost_ret (v:=.tuple #[.string ⟨#[]⟩,.agg #[.string ⟨#[]⟩,.string ⟨#[]⟩],.int .i64 1]) (by simp[results,Tryz.results6,go_sem,r0,r1]) rfl ?_;rw[HPO.out,HEN.out];exact⟨rfl,HE.out.bl⟩
 |true=>
  rw[if_neg (by decide)] at HEN;have HPP:=jq (HPA.out rfl);clear HPA;go_enter Tryz.func6,Tryz.ntmps6
  go_wp2_with fail
  refine(HVA.out _ H.out.bl).mono ?_;rintro e w1 ⟨rfl,hb1⟩;have H1:=jq (H.out.here hb1);clear hl0 hb1 H;have x5:=H1.out.c 1 5 rfl K5.out;go_wp2_with fail
  refine(HTO.out _ H1.out.bl).mono ?_;rintro e w2 ⟨rfl,hb2⟩;have H2:=jq (H1.out.here hb2);clear x5 hb2 H1;have x14:=H2.out.c 1 14 rfl K14.out;have x15:=H2.out.c 1 15 rfl K15.out;go_wp2_with fail
  refine(HPP.out _ H2.out.bl).mono ?_;rintro e w3 ⟨rfl,hb3⟩;have H3:=jq (H2.out.here hb3);clear x14 x15 hb3 H2;have n0:=H3.out.c 0 0 rfl rfl;have n1:=H3.out.c 0 1 rfl rfl;have f0:=H3.out.f 0 0 rfl;have f1:=H3.out.f 0 1 rfl;have HE:=jq ((H3.out.set 0 0 rfl (.string ⟨ff.n.toArray⟩)).set 0 1 rfl (.string ⟨ff.d.toArray⟩));go_wp2_with fail
  have r0:=HE.out.c 0 0 rfl rfl;have r1:=HE.out.c 0 1 rfl rfl;refine bodyPost_ret (v:=.tuple #[.string ⟨tf.toArray⟩,.agg #[.string ⟨ff.n.toArray⟩,.string ⟨ff.d.toArray⟩],.int .i64 0]) (by simp[results,Tryz.results6,go_sem,r0,r1]) rfl ?_;rw[HPO.out,HEN.out];exact⟨rfl,HE.out.bl⟩
end
end Go.Proofs.YtkddgeclncafoaaGreatDoor
