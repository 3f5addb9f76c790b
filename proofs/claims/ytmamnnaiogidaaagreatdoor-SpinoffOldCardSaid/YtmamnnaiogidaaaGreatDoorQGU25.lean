/- Ss2, Ss4. -/
import Derived.Test.YtmamnnaiogidaaaGreatDoorQGU18
import Derived.Test.YtmamnnaiogidaaaGreatDoorQGU20
import Derived.Test.YtmamnnaiogidaaaGreatDoorQGU24
set_option maxRecDepth 100000
set_option maxHeartbeats 8000000
namespace Go.Proofs.YtmamnnaiogidaaaGreatDoor
open Go.Lib renaming hid→jq
section
open Go.RowKit Go.Shelf
attribute [local go_sem] Oper.semAt_some
attribute [local go_sem ↓] Go.wp_at_zero Go.wp_at_succ Yh
theorem Zjs:JO Tryz.prog 56 24 1 16:=Jd Tryz.underlying56 (by kernel_rfl) (by decide) (by decide)
theorem Zm2{W:World}{base g:Nat}{u:Value}{xs:List (List UInt8)}(h:Own S1 1 24 W base u xs)(hg:u.ownBlock=some g):base<=g:=by
 obtain⟨A,c,rfl,_,_,_,h5⟩:=h.form
 exact(h5 g hg).2.1
def Jc(ls:List Lot)(f:Fct):Int:=rnd (f.share.rat*((XT ls f.inst (fun z=>val z.c):Int):Rat))
def Zau(ls:List Lot)(f:Fct):List Int×Int:=
 if Xr ls f=false then([],1)
 else if QX (Qa (Jc ls f)) ((Qb ls f.inst).map (·.c))≠0 then((Qb ls f.inst).map (fun _=>0),0)
 else(Yv (Jc ls f) ((Qb ls f.inst).map (fun z=>val z.c)),0)
def ZbD(r:List Int×Int)(w:World)(e:Ending)(w':World):Prop:=
 ∃A c,e=.returned (.tuple #[.slice A r.1.length c,.int .i64 r.2])/\Vk w' w'.1.size A r.1.length (r.1.map Qa)/\(∀a:Addr,A=some a->w.1.size<=a.block)/\Below w.1.size w w'
theorem ZhC{f:Fct}(h:Za4 f=0):XJ false true f.share=0:=by
 unfold Za4 at h
 by_cases h1:YY f=0
 ·rw[if_neg (by simpa using h1)] at h
  have hk:f.kind=9:=by
   by_cases h2:f.kind=9
   ·exact h2
   ·rw[if_pos h2] at h;cases h
  unfold YY at h1
  split at h1
  ·cases h1
  split at h1
  ·cases h1
  split at h1
  ·split at h1
   ·rename_i e
    have:=congrArg Fct.kind e
    simp only at this
    omega
   ·cases h1
  split at h1
  ·cases h1
  rw[hk] at h1;have hr:Vw 9=some ⟨1,[(7,false,false),(8,true,false),(9,false,true)],[0,1],false⟩:=rfl;rw[hr] at h1;simp only at h1
  have key:∀(n i:Nat),i<=9->9<i+n->Jj f ⟨1,[(7,false,false),(8,true,false),(9,false,true)],[0,1],false⟩ i n=0->VV f ⟨1,[(7,false,false),(8,true,false),(9,false,true)],[0,1],false⟩ 9=0:=by
   intro n
   induction n with
   |zero=>intro i h1 h2;omega
   |succ n ih=>
    intro i hi hn hz;unfold Jj at hz
    by_cases e:i=9
    ·subst e;rw[if_pos (by rfl)] at hz
     split at hz
     ·rename_i h0;exact absurd hz h0
     ·rename_i h0;simpa using h0
    ·split at hz
     ·split at hz
      ·rename_i h0;exact absurd hz h0
      ·exact ih (i+1) (by omega) (by omega) hz
     ·split at hz
      ·cases hz
      ·exact ih (i+1) (by omega) (by omega) hz
  exact key 13 0 (by omega) (by omega) h1
 ·rw[if_pos h1] at h;exact absurd h h1
theorem ZhD{g:Fr}(h:XJ false true g=0):0<=g.rat/\g.rat<=1:=by
 unfold XJ at h
 split at h
 ·cases h
 split at h
 ·cases h
 split at h
 ·cases h
 rename_i h3
 simp at h3;exact⟨Rat.not_lt.1 h3.1,Rat.not_lt.1 h3.2⟩
theorem Zn6{ls:List Lot}{i:List UInt8}(hl:∀x∈ls,x.c.length<=13)(hn:ls.length<=1002):(XT ls i (fun z=>val z.c)).natAbs<10^18:=by
 have h:=Jp (g:=(·.c)) (l:=Qb ls i) (L:=13) (fun x hx=>hl x (List.mem_filter.1 hx).1) (Nat.le_trans (List.length_filter_le _ _) (by omega));have:=Qp (a:=Qa (Vl (·.c) (Qb ls i))) (L:=18) h
 rwa [Qc] at this
theorem Zfs(l:List Int)(n:Nat)(hl:∀x∈l,x=0):Qj l n 0=Qj l n n:=by
 unfold Qj
 congr 1
 refine List.map_congr_left fun j hj=> ?_
 rw[if_neg (by omega),if_pos (List.mem_range.1 hj)]
 have h0:l.getD j 0=0:=by
  rw[List.getD_eq_getElem?_getD]
  cases h:l[j]? with
  |none=>rfl
  |some x=>exact hl x (List.mem_of_getElem? h)
 rw[h0];rfl
theorem ZcA{W:World}{p n:Nat}{l:List Int}(h:BlkB W p (Qj l n n) 24)(hn:l.length=n):Vk W W.1.size (some ⟨p,0,none⟩) n (l.map Qa):=by
 refine⟨by rw[List.length_map,hn],fun _=>⟨p,0,rfl,h.lt,fun j z hj k u hk=> ?_⟩⟩;obtain⟨hj1,hj2⟩:=List.getElem?_eq_some_iff.1 hj
 rw[List.length_map] at hj1;have hk0:k=0:=by have:=(List.getElem?_eq_some_iff.1 hk).1;rw[XW] at this;omega
 subst hk0;have hu:u=.string ⟨z.toArray⟩:=by simpa[S1,S] using hk.symm
 have hz:z=Qa (l.getD j 0):=by
  rw[<-hj2,List.getElem_map,List.getD_eq_getElem?_getD,List.getElem?_eq_getElem hj1];rfl
 rw[hu,hz,Nat.zero_add,Nat.mul_one,Nat.add_zero];exact h.cell j (by rw[QD _ _ _ _ (by omega),if_pos (by omega)])
theorem Zjt(A:Option Addr)(n c:Nat)(ls:List Lot)(f:Fct)(v:FaV)(w:World)(hp:Env w)(hs:Xg w w.1.size A n ls)(hl:∀x∈ls,x.Sz 50000)(hc:∀x∈ls,x.c.length<=13)(hn:n<=1002)(hf:f.Sz 1000)(hsh:f.share.Sz 13)(hm:FaM w w.1.size f v)(hpn:v.pn<=100000)(hon:v.on<=100000):
 Calls Tryz.prog 14 #[.slice A n c,.agg (Qo f v)] w (ZbD (Zau ls f) w):=by
 have HPO:=jq (show ZbD (Zau ls f) w=fun e w'=>∃A c,e=.returned (.tuple #[.slice A (Zau ls f).1.length c,.int .i64 (Zau ls f).2])/\Vk w' w'.1.size A (Zau ls f).1.length ((Zau ls f).1.map Qa)/\(∀a:Addr,A=some a->w.1.size<=a.block)/\Below w.1.size w w' from rfl);generalize ZbD (Zau ls f) w=post at*;have H:=jq ((Kp.start hp).new w.1.size rfl (Qo f v) 30);have hll:=QP (H.out.at_ 0 rfl) (QR f v);have hls:ls.length<=1002:=by rw[<-hs.1];exact hn
 have hlo:(Qb ls f.inst).length<=1002:=Nat.le_trans (List.length_filter_le _ _) hls;have htot:=Zn6 (i:=f.inst) hc hls;have HVA:=jq (fun W (hb:Below w.1.size w W)=>Zao A n c ls f v W (hp.here hb) (hs.here hb) hl (by omega) hf (hm.here hb) hpn hon);have HLO:=jq (fun W (hb:Below w.1.size w W)=>Vp A n c ls f.inst W (hs.here hb) (by omega));have HTO:=jq (fun W (hb:Below w.1.size w W)=>Zca A n c ls f.inst W (hp.here hb) (hs.here hb) (by omega) (fun x hx=>(hl x hx).q) (fun x hx=>(hl x hx).c));have r1:RB 18 ((XT ls f.inst (fun z=>val z.c):Int):Rat):=Zfr htot (by omega);have r2:RB 18 f.share.rat:=Zcl (hsh.more (by omega)) (by omega);have r3:=ZaR r2 r1;have hmv:(Jc ls f).natAbs<10^39:=Zlz r3 (by omega);have HOF:=jq (fun W (hp:Env W)=>Vj (Qa (XT ls f.inst (fun z=>val z.c))) W hp.pow (by have:=Qd htot;omega));rw[Qc] at HOF;have HMU:=jq (fun W (hp:Env W)=>YT f.share (Qg ((XT ls f.inst (fun z=>val z.c):Int):Rat)) W hp.pow (hsh.more (by omega)) ((Xe r1).more (by omega)));rw[Qh] at HMU;have HRO:=jq (fun W (hp:Env W)=>Zb6 (Qg (f.share.rat*((XT ls f.inst (fun z=>val z.c):Int):Rat))) ((Xe r3).more (by omega)) W hp);rw[Qh,show rnd (f.share.rat*((XT ls f.inst (fun z=>val z.c):Int):Rat))=Jc ls f from rfl] at HRO
 have HCP:=jq (show Zau ls f=if Xr ls f=false then([],1)
  else if QX (Qa (Jc ls f)) ((Qb ls f.inst).map (·.c))≠0 then((Qb ls f.inst).map (fun _=>0),0)
  else(Yv (Jc ls f) ((Qb ls f.inst).map (fun z=>val z.c)),0) from rfl)
 have HMV:=jq (show Xr ls f=true->0<=Jc ls f from fun h=>by
  unfold Xr at h;rw[Bool.and_eq_true,decide_eq_true_eq,decide_eq_true_eq] at h;have h1:=(ZhD (ZhC h.2)).1;have h2:=(Zc6 [] ls).1 (by have:=h.1;unfold Xm at this;split at this<;>first|(cases this;done)|exact this);refine JB (Rat.mul_nonneg h1 ?_)
  have:0<=XT ls f.inst (fun z=>val z.c):=by
   unfold XT;refine QH ?_;intro x hx;obtain⟨z,hz,rfl⟩:=List.mem_map.1 hx
   exact(h2.1 z (List.mem_filter.1 hz).1).c0
  exact_mod_cast this)
 have HFB:=jq (QR f v);have K5:=jq (show(Qo f v)[5]?=some (.string ⟨f.inst.toArray⟩) from rfl);have K16:=jq (show(Qo f v)[16]?=some (.string ⟨f.share.n.toArray⟩) from rfl);have K17:=jq (show(Qo f v)[17]?=some (.string ⟨f.share.d.toArray⟩) from rfl);have HLL:=jq hlo
 have HLC:=jq (show ∀x∈(Qb ls f.inst).map (·.c),x.length<=1000 from fun x hx=>by
  obtain⟨z,hz,rfl⟩:=List.mem_map.1 hx
  have:=hc z (List.mem_filter.1 hz).1
  omega)
 have HMM:=jq hmv;have HP:=jq hp;generalize Zau ls f=res at*;generalize Jc ls f=mv at*;generalize Xr ls f=vb at*;generalize Qg (f.share.rat*((XT ls f.inst (fun z=>val z.c):Int):Rat))=fm at*;generalize Qg ((XT ls f.inst (fun z=>val z.c):Int):Rat)=ft at*;generalize Qa (XT ls f.inst (fun z=>val z.c))=tt at*;generalize Qa (XT ls f.inst (fun z=>val z.q))=tq at*;generalize Qb ls f.inst=lo at*;generalize Qo f v=fb at*;clear hp hs hl hc hn hf hsh hm hpn hon hls hlo htot r1 r2 r3 hmv;unfold ZaQ QJ Qy S at*
 cases vb with
 |false=>
  rw[if_pos rfl] at HCP;have HCP2:=jq HCP.out;go_enter Tryz.func14,Tryz.ntmps14
  go_wp2_with fail
  refine(HVA.out _ H.out.bl).mono ?_;rintro e w1 ⟨rfl,hb1⟩;go_wp2_with fail
  first|go_ret|go_ret2|skip
  rw[HPO.out,HCP.out];exact⟨none,0,rfl,Sl.nil,(fun _ h=>by cases h),(H.out.here hb1).bl⟩
 |true=>
 rw[if_neg (by decide)] at HCP;have HM0:=jq (HMV.out rfl);clear HMV;go_enter Tryz.func14,Tryz.ntmps14
 go_wp2_with fail
 refine(HVA.out _ H.out.bl).mono ?_;rintro e w1 ⟨rfl,hb1⟩;have H1:=jq (H.out.here hb1);have x5:=H1.out.c 0 5 rfl K5.out;clear hll H hb1 HVA;go_wp2_with fail
 refine(HLO.out _ H1.out.bl).mono ?_;rintro e w2 ⟨A2,c2,rfl,ho2,hb2⟩;have H2:=jq (H1.out.here hb2);have HL2:=jq (ho2.sl Ql);clear x5 ho2 hb2 H1 HLO;have HO0:=jq (show Own S1 1 24 w2 w2.1.size (.slice none 0 0) ([]:List (List UInt8)) from Own.nil);go_wp2_with fail
 go_loopw [6,8,24] (fun s _ i wr=>∃(k:Nat) (A1:Option Addr) (c1:Nat),k<=lo.length/\i=.int .i64 k/\s=.slice A1 ((lo.take k).map (·.c)).length c1/\Hid (Own S1 1 24 wr w2.1.size (.slice A1 ((lo.take k).map (·.c)).length c1) ((lo.take k).map (·.c)))/\Hid (Below w2.1.size w2 wr)) (fun _ _ i _=>lo.length-(intOf i).toNat)
 case atStart=>exact⟨0,none,0,Nat.zero_le _,rfl,rfl,HO0.out,Below.refl _ _⟩
 case round=>
  obtain⟨k,A1,c1,hk,rfl,rfl,HOW,HBR⟩:=hrel
  have hlm:=HLL.out
  by_cases hlt:k<lo.length
  ·obtain⟨b,off,y,rfl,hb,hy,d0,d1,d2,d3,d4,d5,d6⟩:=(HL2.out.below HBR.out).lot7 hlt
   have HTK:=jq (show(lo.take (k+1)).map (·.c)=(lo.take k).map (·.c)++[y.c] by
    obtain⟨h1,h2⟩:=List.getElem?_eq_some_iff.1 hy
    rw[List.take_succ_eq_append_getElem h1,h2,List.map_append];rfl)
   clear hy;have HLN:=jq (show((lo.take k).map (·.c)).length+1<=100000000000 by have:=HLL.out;simp;omega);have HA1:=jq (HBR.out.alloc HBR.out.size (.cells #[.string ⟨y.id.toArray⟩,.string ⟨y.inst.toArray⟩,.int .i64 y.acq,.int .i64 y.opn,.string ⟨y.q.toArray⟩,.string ⟨y.c.toArray⟩,.string ⟨y.u.toArray⟩] 50));have HO1:=jq (HOW.out.alloc (.cells #[.string ⟨y.id.toArray⟩,.string ⟨y.inst.toArray⟩,.int .i64 y.acq,.int .i64 y.opn,.string ⟨y.q.toArray⟩,.string ⟨y.c.toArray⟩,.string ⟨y.u.toArray⟩] 50));have HBX:=jq (show BlkB (wr.alloc (.cells #[.string ⟨y.id.toArray⟩,.string ⟨y.inst.toArray⟩,.int .i64 y.acq,.int .i64 y.opn,.string ⟨y.q.toArray⟩,.string ⟨y.c.toArray⟩,.string ⟨y.u.toArray⟩] 50)) wr.1.size #[.string ⟨y.id.toArray⟩,.string ⟨y.inst.toArray⟩,.int .i64 y.acq,.int .i64 y.opn,.string ⟨y.q.toArray⟩,.string ⟨y.c.toArray⟩,.string ⟨y.u.toArray⟩] 50 from heap_alloc_new wr _);generalize hkl:(lo.take k).map (·.c)=kl at*;have HKL:=jq hkl;clear hkl;go_upto_region 7 with (fail)
   clear d0 d1 d2 d3 d4 d5 d6;generalize wr.alloc _=W1 at*;generalize hbx:wr.1.size=bx at*;clear hbx;have x5:=HBX.out.cell 5 rfl;have HA2:=jq (HA1.out.alloc HA1.out.size (.cells #[.string ⟨y.c.toArray⟩] 24));have HO2:=jq (HO1.out.alloc (.cells #[.string ⟨y.c.toArray⟩] 24));have HSL:=jq (show Vk (W1.alloc (.cells #[.string ⟨y.c.toArray⟩] 24)) (W1.1.size+1) (some ⟨W1.1.size,0,none⟩) 1 [y.c] from Sl.lit W1 _ 24 [y.c] rfl XW)
   go_wp2_with (at_builtin;refine Xl _ rfl (.tmp 28) (.tmp 31) _ rfl Zjs XW Zbu (base:=w2.1.size) (.slice A1 kl.length c1) kl rfl HO2.out _ _ 1 1 [y.c] rfl HSL.out HLN.out HA2.out.size ?_
                intro A4 c4 w4 ho4 hg4 _)
   go_roundw
   case rel=>
    exact⟨k+1,A4,c4,by omega,by go_num,by rw[HTK.out];simp,(show Own _ _ _ _ _ _ _ by rw[HTK.out];simpa using ho4),Qu HA2.out hg4 HA2.out.size (fun g hg=>Zm2 HO2.out hg)⟩
   case measure=>simp[intOf];omega
  ·have ek:(lo.take k).map (·.c)=lo.map (·.c):=by rw[List.take_of_length_le (by omega)]
   rw[ek] at HOW ⊢;clear ek;have H3:=jq (H2.out.here HBR.out);have HST:=jq (show Vk wr wr.1.size A1 (lo.map (·.c)).length (lo.map (·.c)) from HOW.out.sl XW);clear HOW H2 HBR HL2 HO0;generalize hcl:lo.map (·.c)=cl at*;have x5:=H3.out.c 0 5 rfl K5.out;go_wp2_with fail
   refine(HTO.out _ H3.out.bl).mono ?_;rintro e w4 ⟨rfl,hb4⟩;have H4:=jq (H3.out.here hb4);have HS4:=jq (HST.out.here hb4);clear x5 hb4 H3 HST;go_upto_region 10 with (fail)
   have hS:=jq (fun V (h:Bz w4 V)=>(show V.cell? ⟨w.1.size,16,none⟩=some (.string ⟨f.share.n.toArray⟩)/\V.cell? ⟨w.1.size,17,none⟩=some (.string ⟨f.share.d.toArray⟩) from⟨(H4.out.here h).c 0 16 rfl K16.out,(H4.out.here h).c 0 17 rfl K17.out⟩));have hE:=jq (fun V (h:Bz w4 V)=>(H4.out.here h).pw)
   go_cut [11] (fun u wc=>u=.string ⟨(Qa mv).toArray⟩/\Hid (Bz w4 wc))
   case first=>
    go_region_held3 (fun V=>V.cell? ⟨w.1.size,16,none⟩=some (.string ⟨f.share.n.toArray⟩)/\V.cell? ⟨w.1.size,17,none⟩=some (.string ⟨f.share.d.toArray⟩))
     (first
       |exact hS.out _ (by repeat' (first|assumption|exact Bz.refl _|refine Bz.drew ?_|refine Bz.alloc ?_ _|refine Bz.set ?_ (by first|assumption|exact Nat.le_refl _|exact Bz.size (by assumption)) _ _))
       |go_keep)
     (first
       |(go_at_call 19;refine(HOF.out _ (hE.out _ (by repeat' (first|assumption|exact Bz.refl _|refine Bz.drew ?_|refine Bz.alloc ?_ _|refine Bz.set ?_ (by first|assumption|exact Nat.le_refl _|exact Bz.size (by assumption)) _ _)))).mono ?_;rintro e v1 ⟨rfl,hb1⟩;have hz1:Bz w4 v1:=Bz.call (by repeat' (first|assumption|exact Bz.refl _|refine Bz.drew ?_|refine Bz.alloc ?_ _|refine Bz.set ?_ (by first|assumption|exact Nat.le_refl _|exact Bz.size (by assumption)) _ _)) hb1)
       |(go_at_call 42;refine(HMU.out _ (hE.out _ (by repeat' (first|assumption|exact Bz.refl _|refine Bz.drew ?_|refine Bz.alloc ?_ _|refine Bz.set ?_ (by first|assumption|exact Nat.le_refl _|exact Bz.size (by assumption)) _ _)))).mono ?_;rintro e v2 ⟨rfl,hb2⟩;have hz2:Bz w4 v2:=Bz.call (by repeat' (first|assumption|exact Bz.refl _|refine Bz.drew ?_|refine Bz.alloc ?_ _|refine Bz.set ?_ (by first|assumption|exact Nat.le_refl _|exact Bz.size (by assumption)) _ _)) hb2)
       |(go_at_call 41;refine(HRO.out _ (hE.out _ (by repeat' (first|assumption|exact Bz.refl _|refine Bz.drew ?_|refine Bz.alloc ?_ _|refine Bz.set ?_ (by first|assumption|exact Nat.le_refl _|exact Bz.size (by assumption)) _ _)))).mono ?_;rintro e v3 ⟨rfl,hb3⟩;have hz3:Bz w4 v3:=Bz.call (by repeat' (first|assumption|exact Bz.refl _|refine Bz.drew ?_|refine Bz.alloc ?_ _|refine Bz.set ?_ (by first|assumption|exact Nat.le_refl _|exact Bz.size (by assumption)) _ _)) hb3))
    all_goals
     go_wp2_with fail
     go_meet
     exact⟨rfl,hz3⟩
   case rest=>
   obtain⟨rfl,HZ⟩:=hcut
   have H5:=jq (H4.out.here HZ.out);have HS5:=jq (HS4.out.here HZ.out);clear HZ hS hE H4 HS4 HOF HMU HRO HTO;have HNC:=jq (show cl.length<=1000000 by rw[<-hcl];simp;omega);have HTL:=jq (show(Qa mv).length<=1000 by have:=Qd HMM.out;omega);have HCV:=jq (show cl.map val=lo.map (fun z=>val z.c) by rw[<-hcl,List.map_map];rfl);have HCN:=jq (show cl.length=lo.length by rw[<-hcl];simp);rw[<-HCV.out] at HCP
   by_cases hc0:QX (Qa mv) cl=0
   ·rw[if_neg (by simpa using hc0)] at HCP;have hsp:=hc0;unfold QX at hsp
    split at hsp
    ·cases hsp
    rename_i s1
    split at hsp
    ·cases hsp
    rename_i s2
    split at hsp
    ·cases hsp
    rename_i s3
    split at hsp
    ·cases hsp
    rename_i s4
    have hw0:∀x∈cl,0<=val x:=fun x hx=>by
     refine Int.not_lt.1 fun h=>s3 (.inr (List.any_eq_true.2 ⟨x,hx,?_⟩))
     simp[h]
    have hsv:0<Qw cl:=by
     have h1:0<=Qw cl:=by
      unfold Qw;refine QH fun x hx=> ?_
      obtain⟨z,hz,rfl⟩:=List.mem_map.1 hx
      exact hw0 z hz
     omega
    have hn0:0<cl.length:=List.length_pos_iff.2 s1;have HSP:=jq (ZeN (Qa mv) A1 cl.length c1 cl wc H5.out.pw HS5.out HTL.out HLC.out hn0 (by omega) (by rw[Qc]) (by rw[Qc];exact HM0.out) hw0 hsv hc0);rw[Qc] at HSP;unfold ZbC at HSP;have HPN:=jq (show(Yv mv (cl.map val)).length=cl.length by rw[Zcn];simp);generalize Yv mv (cl.map val)=ps at*;clear hsp s1 s2 s3 s4 hw0 hsv hn0 hc0;unfold S at HSP;go_wp2_with fail
    refine HSP.out.mono ?_;rintro e w6 ⟨P,rfl,hB,hP,hb6⟩;have HB6:=jq hB;have HPP:=jq (Nat.le_trans H5.out.bl.size hP);clear hB hP;go_wp2_with fail
    first|go_ret2|go_ret|skip
    rw[HPO.out,HCP.out];refine⟨some ⟨P,0,none⟩,cl.length,?_,?_,(fun a h=>by injection h with h;rw[<-h];exact HPP.out),(H5.out.here hb6).bl⟩
    ·show _=Ending.returned (.tuple #[.slice (some ⟨P,0,none⟩) ps.length cl.length,.int .i64 0])
     rw[HPN.out];rfl
    ·show Vk _ _ _ ps.length (ps.map Qa)
     rw[HPN.out];exact ZcA HB6.out HPN.out
   ·rw[if_pos hc0] at HCP;have HSP:=jq (ZeO (Qa mv) A1 cl.length c1 cl wc H5.out.pw HS5.out HTL.out HLC.out HNC.out hc0);have hr0:(QX (Qa mv) cl==0)=false:=beq_false_of_ne hc0;generalize QX (Qa mv) cl=er at*;have hlc:=HNC.out;have hmk:=run_make_row' (P:=Tryz.prog) 56 24 (.string ⟨#[]⟩) 16 Tryz.underlying56 Zly rfl .i64 .i64 cl.length (by omega) (by omega);rw[XN (lo.map (fun _=>(0:Int))),Zfs (lo.map (fun _=>(0:Int))) cl.length (fun x hx=>by obtain⟨_,_,rfl⟩:=List.mem_map.1 hx;rfl)] at hmk;clear hc0;unfold S at HSP;go_wp2_with fail
    refine HSP.out.mono ?_;rintro e w6 ⟨rfl,hb6⟩;have H6:=jq (H5.out.here hb6);clear hb6;go_wp2_with fail
    first|go_ret2|go_ret|skip
    have HB6:=H6.out.new w6.1.size rfl (Qj (lo.map (fun _=>(0:Int))) cl.length cl.length) 24;have hzl:(lo.map (fun _=>(0:Int))).length=cl.length:=by rw[HCN.out];simp
    rw[HPO.out,HCP.out];refine⟨some ⟨w6.1.size,0,none⟩,cl.length,?_,?_,(fun a h=>by injection h with h;rw[<-h];exact H6.out.bl.size),HB6.bl⟩
    ·show _=Ending.returned (.tuple #[.slice (some ⟨w6.1.size,0,none⟩) (lo.map (fun _=>(0:Int))).length cl.length,.int .i64 0])
     rw[hzl];rfl
    ·show Vk _ _ _ (lo.map (fun _=>(0:Int))).length ((lo.map (fun _=>(0:Int))).map Qa)
     rw[hzl];exact ZcA (HB6.at_ 0 rfl) hzl
end
section
def Fct.sh(f:Fct)(g:Fr):Fct:={f with share:=g}
def Zow:KRow:=⟨1,[(7,false,false),(8,true,false),(9,false,true)],[0,1],false⟩
theorem Zft{ls:List Lot}{f:Fct}(h:Xr ls f=true):ls.length<=1000/\∀x∈ls,x.Ok:=by
 unfold Xr at h;rw[Bool.and_eq_true,decide_eq_true_eq,decide_eq_true_eq] at h;have h1:=h.1;unfold Xm at h1
 split at h1
 ·cases h1
 ·rename_i hn
  exact⟨by omega,((Zc6 [] ls).1 h1).1⟩
theorem ZlA(lo:List Lot):(lo.map (·.c)).map val=lo.map (fun z=>val z.c):=by rw[List.map_map];rfl
theorem Zju{ls:List Lot}{f:Fct}{t:Int}(h:Xr ls f=true)(hc:QX (Qa t) ((Qb ls f.inst).map (·.c))≠0):((Qb ls f.inst).map (fun z=>val z.c)).sum=0:=by
 obtain⟨h1,h2⟩:=Zft h
 have hok:∀z∈Qb ls f.inst,z.Ok:=fun z hz=>h2 z (List.mem_filter.1 hz).1
 have hl:(Qb ls f.inst).length<=ls.length:=List.length_filter_le _ _;unfold QX at hc
 split at hc
 ·rename_i e
  rw[List.map_eq_nil_iff] at e;rw[e];rfl
 split at hc
 ·rename_i e
  rw[List.length_map] at e;omega
 split at hc
 ·rename_i e
  exfalso
  rcases e with e|e
  ·unfold Xo at e;rw[Qc] at e;simp at e
  ·obtain⟨x,hx,hb⟩:=List.any_eq_true.1 e
   obtain⟨z,hz,rfl⟩:=List.mem_map.1 hx
   have:=hok z hz
   rw[this.c] at hb;have h0:=this.c0;simp at hb;omega
 split at hc
 ·rename_i e
  unfold Qw at e
  rwa [ZlA] at e
 ·exact absurd rfl hc
end
end Go.Proofs.YtmamnnaiogidaaaGreatDoor
