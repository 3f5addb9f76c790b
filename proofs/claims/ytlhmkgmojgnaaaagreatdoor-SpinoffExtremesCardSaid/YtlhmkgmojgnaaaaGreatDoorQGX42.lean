/- Ss2, Ss4. -/
import Derived.Test.YtlhmkgmojgnaaaaGreatDoorQGX30
import Derived.Test.YtlhmkgmojgnaaaaGreatDoorQGX35
import Derived.Test.YtlhmkgmojgnaaaaGreatDoorQGX40
set_option maxRecDepth 100000
set_option maxHeartbeats 8000000
namespace Go.Proofs.YtlhmkgmojgnaaaaGreatDoor
open Go.Lib renaming hid→jq
section
open Go.RowKit Go.Shelf
attribute [local go_sem] Oper.semAt_some
attribute [local go_sem ↓] Go.wp_at_zero Go.wp_at_succ Yq
theorem ZfK:JK Tryz.prog 33 24 1 16:=Zao Tryz.underlying33 (by kernel_rfl) (by decide) (by decide)
theorem Ziz{W:World}{base g:Nat}{u:Value}{xs:List (List UInt8)}(h:Own S1 1 24 W base u xs)(hg:u.ownBlock=some g):base<=g:=by
 obtain⟨A,c,rfl,_,_,_,h5⟩:=h.form
 exact(h5 g hg).2.1
def XK(ls:List Lot)(f:Fct):Int:=rnd (f.share.rat*((YN ls f.inst (fun z=>val z.c):Int):Rat))
def XG(ls:List Lot)(f:Fct):List Int×Int:=
 if Xd ls f=false then([],1)
 else if QE (Qa (XK ls f)) ((Qb ls f.inst).map (·.c))≠0 then((Qb ls f.inst).map (fun _=>0),0)
 else(Xi (XK ls f) ((Qb ls f.inst).map (fun z=>val z.c)),0)
def Vo(r:List Int×Int)(w:World)(e:Ending)(w':World):Prop:=
 ∃A c,e=.returned (.tuple #[.slice A r.1.length c,.int .i64 r.2])/\VO w' w'.1.size A r.1.length (r.1.map Qa)/\(∀a:Addr,A=some a->w.1.size<=a.block)/\Below w.1.size w w'
theorem Zei{f:Fct}(h:Ya f=0):QY false true f.share=0:=by
 unfold Ya at h
 by_cases h1:Xk f=0
 ·rw[if_neg (by simpa using h1)] at h
  have hk:f.kind=9:=by
   by_cases h2:f.kind=9
   ·exact h2
   ·rw[if_pos h2] at h;cases h
  unfold Xk at h1
  split at h1
  ·cases h1
  split at h1
  ·cases h1
  split at h1
  ·split at h1
   ·rename_i e
    have:=congrArg Fct.kind e
    simp only at this
    omega
   ·cases h1
  split at h1
  ·cases h1
  rw[hk] at h1;have hr:XM 9=some ⟨1,[(7,false,false),(8,true,false),(9,false,true)],[0,1],false⟩:=rfl;rw[hr] at h1;simp only at h1
  have key:∀(n i:Nat),i<=9->9<i+n->XU f ⟨1,[(7,false,false),(8,true,false),(9,false,true)],[0,1],false⟩ i n=0->Yc f ⟨1,[(7,false,false),(8,true,false),(9,false,true)],[0,1],false⟩ 9=0:=by
   intro n
   induction n with
   |zero=>intro i h1 h2;omega
   |succ n ih=>
    intro i hi hn hz;unfold XU at hz
    by_cases e:i=9
    ·subst e;rw[if_pos (by rfl)] at hz
     split at hz
     ·rename_i h0;exact absurd hz h0
     ·rename_i h0;simpa using h0
    ·split at hz
     ·split at hz
      ·rename_i h0;exact absurd hz h0
      ·exact ih (i+1) (by omega) (by omega) hz
     ·split at hz
      ·cases hz
      ·exact ih (i+1) (by omega) (by omega) hz
  exact key 13 0 (by omega) (by omega) h1
 ·rw[if_pos h1] at h;exact absurd h h1
theorem Zej{g:Fr}(h:QY false true g=0):0<=g.rat/\g.rat<=1:=by
 unfold QY at h
 split at h
 ·cases h
 split at h
 ·cases h
 split at h
 ·cases h
 rename_i h3
 simp at h3;exact⟨Rat.not_lt.1 h3.1,Rat.not_lt.1 h3.2⟩
theorem Zjf{ls:List Lot}{i:List UInt8}(hl:∀x∈ls,x.c.length<=13)(hn:ls.length<=1002):(YN ls i (fun z=>val z.c)).natAbs<10^18:=by
 have h:=Za1 (g:=(·.c)) (l:=Qb ls i) (L:=13) (fun x hx=>hl x (List.mem_filter.1 hx).1) (Nat.le_trans (List.length_filter_le _ _) (by omega));have:=Qu (a:=Qa (Yb (·.c) (Qb ls i))) (L:=18) h
 rwa [Qd] at this
theorem Zcw(l:List Int)(n:Nat)(hl:∀x∈l,x=0):Qn l n 0=Qn l n n:=by
 unfold Qn
 congr 1
 refine List.map_congr_left fun j hj=> ?_
 rw[if_neg (by omega),if_pos (List.mem_range.1 hj)]
 have h0:l.getD j 0=0:=by
  rw[List.getD_eq_getElem?_getD]
  cases h:l[j]? with
  |none=>rfl
  |some x=>exact hl x (List.mem_of_getElem? h)
 rw[h0];rfl
theorem JW{W:World}{p n:Nat}{l:List Int}(h:BlkB W p (Qn l n n) 24)(hn:l.length=n):VO W W.1.size (some ⟨p,0,none⟩) n (l.map Qa):=by
 refine⟨by rw[List.length_map,hn],fun _=>⟨p,0,rfl,h.lt,fun j z hj k u hk=> ?_⟩⟩;obtain⟨hj1,hj2⟩:=List.getElem?_eq_some_iff.1 hj
 rw[List.length_map] at hj1;have hk0:k=0:=by have:=(List.getElem?_eq_some_iff.1 hk).1;rw[ZaP] at this;omega
 subst hk0;have hu:u=.string ⟨z.toArray⟩:=by simpa[S1,S] using hk.symm
 have hz:z=Qa (l.getD j 0):=by
  rw[<-hj2,List.getElem_map,List.getD_eq_getElem?_getD,List.getElem?_eq_getElem hj1];rfl
 rw[hu,hz,Nat.zero_add,Nat.mul_one,Nat.add_zero];exact h.cell j (by rw[Xw _ _ _ _ (by omega),if_pos (by omega)])
theorem ZfL(A:Option Addr)(n c:Nat)(ls:List Lot)(f:Fct)(v:FaV)(w:World)(hp:Env w)(hs:YX w w.1.size A n ls)(hl:∀x∈ls,x.Sz 50000)(hc:∀x∈ls,x.c.length<=13)(hn:n<=1002)(hf:f.Sz 1000)(hsh:f.share.Sz 13)(hm:FaM w w.1.size f v)(hpn:v.pn<=100000)(hon:v.on<=100000):
 Calls Tryz.prog 6 #[.slice A n c,.agg (Qm f v)] w (Vo (XG ls f) w):=by
 have HPO:=jq (show Vo (XG ls f) w=fun e w'=>∃A c,e=.returned (.tuple #[.slice A (XG ls f).1.length c,.int .i64 (XG ls f).2])/\VO w' w'.1.size A (XG ls f).1.length ((XG ls f).1.map Qa)/\(∀a:Addr,A=some a->w.1.size<=a.block)/\Below w.1.size w w' from rfl);generalize Vo (XG ls f) w=post at*;have H:=jq ((Kp.start hp).new w.1.size rfl (Qm f v) 30);have hll:=QN (H.out.at_ 0 rfl) (QL f v);have hls:ls.length<=1002:=by rw[<-hs.1];exact hn
 have hlo:(Qb ls f.inst).length<=1002:=Nat.le_trans (List.length_filter_le _ _) hls;have htot:=Zjf (i:=f.inst) hc hls;have HVA:=jq (fun W (hb:Below w.1.size w W)=>Zdo A n c ls f v W (hp.here hb) (hs.here hb) hl (by omega) hf (hm.here hb) hpn hon);have HLO:=jq (fun W (hb:Below w.1.size w W)=>ZbP A n c ls f.inst W (hs.here hb) (by omega));have HTO:=jq (fun W (hb:Below w.1.size w W)=>Zfy A n c ls f.inst W (hp.here hb) (hs.here hb) (by omega) (fun x hx=>(hl x hx).q) (fun x hx=>(hl x hx).c));have r1:RB 18 ((YN ls f.inst (fun z=>val z.c):Int):Rat):=Zje htot (by omega);have r2:RB 18 f.share.rat:=ZiG (hsh.more (by omega)) (by omega);have r3:=Ziy r2 r1;have hmv:(XK ls f).natAbs<10^39:=Zjd r3 (by omega);have HOF:=jq (fun W (hp:Env W)=>Zcf (Qa (YN ls f.inst (fun z=>val z.c))) W hp.pow (by have:=Qf htot;omega));rw[Qd] at HOF;have HMU:=jq (fun W (hp:Env W)=>ZaJ f.share (Qh ((YN ls f.inst (fun z=>val z.c):Int):Rat)) W hp.pow (hsh.more (by omega)) ((YB r1).more (by omega)));rw[Ql] at HMU;have HRO:=jq (fun W (hp:Env W)=>Zft (Qh (f.share.rat*((YN ls f.inst (fun z=>val z.c):Int):Rat))) ((YB r3).more (by omega)) W hp);rw[Ql,show rnd (f.share.rat*((YN ls f.inst (fun z=>val z.c):Int):Rat))=XK ls f from rfl] at HRO
 have HCP:=jq (show XG ls f=if Xd ls f=false then([],1)
  else if QE (Qa (XK ls f)) ((Qb ls f.inst).map (·.c))≠0 then((Qb ls f.inst).map (fun _=>0),0)
  else(Xi (XK ls f) ((Qb ls f.inst).map (fun z=>val z.c)),0) from rfl)
 have HMV:=jq (show Xd ls f=true->0<=XK ls f from fun h=>by
  unfold Xd at h;rw[Bool.and_eq_true,decide_eq_true_eq,decide_eq_true_eq] at h;have h1:=(Zej (Zei h.2)).1
  have h2:=(ZcH [] ls).1 (by have:=h.1;unfold Zau at this;split at this <;> first|(cases this;done)|exact this)
  refine YF (Rat.mul_nonneg h1 ?_)
  have:0<=YN ls f.inst (fun z=>val z.c):=by
   unfold YN;refine Qx ?_;intro x hx;obtain⟨z,hz,rfl⟩:=List.mem_map.1 hx
   exact(h2.1 z (List.mem_filter.1 hz).1).c0
  exact_mod_cast this)
 have HFB:=jq (QL f v);have K5:=jq (show(Qm f v)[5]?=some (.string ⟨f.inst.toArray⟩) from rfl);have K16:=jq (show(Qm f v)[16]?=some (.string ⟨f.share.n.toArray⟩) from rfl);have K17:=jq (show(Qm f v)[17]?=some (.string ⟨f.share.d.toArray⟩) from rfl);have HLL:=jq hlo
 have HLC:=jq (show ∀x∈(Qb ls f.inst).map (·.c),x.length<=1000 from fun x hx=>by
  obtain⟨z,hz,rfl⟩:=List.mem_map.1 hx
  have:=hc z (List.mem_filter.1 hz).1
  omega)
 have HMM:=jq hmv;have HP:=jq hp;generalize XG ls f=res at*;generalize XK ls f=mv at*;generalize Xd ls f=vb at*;generalize Qh (f.share.rat*((YN ls f.inst (fun z=>val z.c):Int):Rat))=fm at*;generalize Qh ((YN ls f.inst (fun z=>val z.c):Int):Rat)=ft at*;generalize Qa (YN ls f.inst (fun z=>val z.c))=tt at*;generalize Qa (YN ls f.inst (fun z=>val z.q))=tq at*;generalize Qb ls f.inst=lo at*;generalize Qm f v=fb at*;clear hp hs hl hc hn hf hsh hm hpn hon hls hlo htot r1 r2 r3 hmv;unfold Zam Qq QA S at*
 cases vb with
 |false=>
  rw[if_pos rfl] at HCP;have HCP2:=jq HCP.out;go_enter Tryz.func6,Tryz.ntmps6
  go_wp2_with fail
  refine(HVA.out _ H.out.bl).mono ?_;rintro e w1 ⟨rfl,hb1⟩;go_wp2_with fail
  first|go_ret|go_ret2|skip
  rw[HPO.out,HCP.out];exact⟨none,0,rfl,Sl.nil,(fun _ h=>by cases h),(H.out.here hb1).bl⟩
 |true=>
 rw[if_neg (by decide)] at HCP;have HM0:=jq (HMV.out rfl);clear HMV;go_enter Tryz.func6,Tryz.ntmps6
 go_wp2_with fail
 refine(HVA.out _ H.out.bl).mono ?_;rintro e w1 ⟨rfl,hb1⟩;have H1:=jq (H.out.here hb1);have x5:=H1.out.c 0 5 rfl K5.out;clear hll H hb1 HVA;go_wp2_with fail
 refine(HLO.out _ H1.out.bl).mono ?_;rintro e w2 ⟨A2,c2,rfl,ho2,hb2⟩;have H2:=jq (H1.out.here hb2);have HL2:=jq (ho2.sl Zav);clear x5 ho2 hb2 H1 HLO;have HO0:=jq (show Own S1 1 24 w2 w2.1.size (.slice none 0 0) ([]:List (List UInt8)) from Own.nil);go_wp2_with fail
 go_loopw [6,8,24] (fun s _ i wr=>∃(k:Nat) (A1:Option Addr) (c1:Nat),k<=lo.length/\i=.int .i64 k/\s=.slice A1 ((lo.take k).map (·.c)).length c1/\Hid (Own S1 1 24 wr w2.1.size (.slice A1 ((lo.take k).map (·.c)).length c1) ((lo.take k).map (·.c)))/\Hid (Below w2.1.size w2 wr)) (fun _ _ i _=>lo.length-(intOf i).toNat)
 case atStart=>exact⟨0,none,0,Nat.zero_le _,rfl,rfl,HO0.out,Below.refl _ _⟩
 case round=>
  obtain⟨k,A1,c1,hk,rfl,rfl,HOW,HBR⟩:=hrel
  have hlm:=HLL.out
  by_cases hlt:k<lo.length
  ·obtain⟨b,off,y,rfl,hb,hy,d0,d1,d2,d3,d4,d5,d6⟩:=(HL2.out.below HBR.out).lot7 hlt
   have HTK:=jq (show(lo.take (k+1)).map (·.c)=(lo.take k).map (·.c)++[y.c] by
    obtain⟨h1,h2⟩:=List.getElem?_eq_some_iff.1 hy
    rw[List.take_succ_eq_append_getElem h1,h2,List.map_append];rfl)
   clear hy;have HLN:=jq (show((lo.take k).map (·.c)).length+1<=100000000000 by have:=HLL.out;simp;omega);have HA1:=jq (HBR.out.alloc HBR.out.size (.cells #[.string ⟨y.id.toArray⟩,.string ⟨y.inst.toArray⟩,.int .i64 y.acq,.int .i64 y.opn,.string ⟨y.q.toArray⟩,.string ⟨y.c.toArray⟩,.string ⟨y.u.toArray⟩] 40));have HO1:=jq (HOW.out.alloc (.cells #[.string ⟨y.id.toArray⟩,.string ⟨y.inst.toArray⟩,.int .i64 y.acq,.int .i64 y.opn,.string ⟨y.q.toArray⟩,.string ⟨y.c.toArray⟩,.string ⟨y.u.toArray⟩] 40));have HBX:=jq (show BlkB (wr.alloc (.cells #[.string ⟨y.id.toArray⟩,.string ⟨y.inst.toArray⟩,.int .i64 y.acq,.int .i64 y.opn,.string ⟨y.q.toArray⟩,.string ⟨y.c.toArray⟩,.string ⟨y.u.toArray⟩] 40)) wr.1.size #[.string ⟨y.id.toArray⟩,.string ⟨y.inst.toArray⟩,.int .i64 y.acq,.int .i64 y.opn,.string ⟨y.q.toArray⟩,.string ⟨y.c.toArray⟩,.string ⟨y.u.toArray⟩] 40 from heap_alloc_new wr _);generalize hkl:(lo.take k).map (·.c)=kl at*;have HKL:=jq hkl;clear hkl;go_upto_region 7 with (fail)
   clear d0 d1 d2 d3 d4 d5 d6;generalize wr.alloc _=W1 at*;generalize hbx:wr.1.size=bx at*;clear hbx;have x5:=HBX.out.cell 5 rfl;have HA2:=jq (HA1.out.alloc HA1.out.size (.cells #[.string ⟨y.c.toArray⟩] 24));have HO2:=jq (HO1.out.alloc (.cells #[.string ⟨y.c.toArray⟩] 24));have HSL:=jq (show VO (W1.alloc (.cells #[.string ⟨y.c.toArray⟩] 24)) (W1.1.size+1) (some ⟨W1.1.size,0,none⟩) 1 [y.c] from Sl.lit W1 _ 24 [y.c] rfl ZaP)
   go_wp2_with (at_builtin;refine XS _ rfl (.tmp 28) (.tmp 31) _ rfl ZfK ZaP Zh2 (base:=w2.1.size) (.slice A1 kl.length c1) kl rfl HO2.out _ _ 1 1 [y.c] rfl HSL.out HLN.out HA2.out.size ?_
                intro A4 c4 w4 ho4 hg4 _)
   go_roundw
   case rel=>
    exact⟨k+1,A4,c4,by omega,by go_num,by rw[HTK.out];simp,(show Own _ _ _ _ _ _ _ by rw[HTK.out];simpa using ho4),QK HA2.out hg4 HA2.out.size (fun g hg=>Ziz HO2.out hg)⟩
   case measure=>simp[intOf];omega
  ·have ek:(lo.take k).map (·.c)=lo.map (·.c):=by rw[List.take_of_length_le (by omega)]
   rw[ek] at HOW ⊢;clear ek;have H3:=jq (H2.out.here HBR.out);have HST:=jq (show VO wr wr.1.size A1 (lo.map (·.c)).length (lo.map (·.c)) from HOW.out.sl ZaP);clear HOW H2 HBR HL2 HO0;generalize hcl:lo.map (·.c)=cl at*;have x5:=H3.out.c 0 5 rfl K5.out;go_wp2_with fail
   refine(HTO.out _ H3.out.bl).mono ?_;rintro e w4 ⟨rfl,hb4⟩;have H4:=jq (H3.out.here hb4);have HS4:=jq (HST.out.here hb4);clear x5 hb4 H3 HST;go_upto_region 10 with (fail)
   have hS:=jq (fun V (h:Bz w4 V)=>(show V.cell? ⟨w.1.size,16,none⟩=some (.string ⟨f.share.n.toArray⟩)/\V.cell? ⟨w.1.size,17,none⟩=some (.string ⟨f.share.d.toArray⟩) from⟨(H4.out.here h).c 0 16 rfl K16.out,(H4.out.here h).c 0 17 rfl K17.out⟩));have hE:=jq (fun V (h:Bz w4 V)=>(H4.out.here h).pw)
   go_cut [11] (fun u wc=>u=.string ⟨(Qa mv).toArray⟩/\Hid (Bz w4 wc))
   case first=>
    go_region_held3 (fun V=>V.cell? ⟨w.1.size,16,none⟩=some (.string ⟨f.share.n.toArray⟩)/\V.cell? ⟨w.1.size,17,none⟩=some (.string ⟨f.share.d.toArray⟩))
     (first
       |exact hS.out _ (by repeat' (first|assumption|exact Bz.refl _|refine Bz.drew ?_|refine Bz.alloc ?_ _|refine Bz.set ?_ (by first|assumption|exact Nat.le_refl _|exact Bz.size (by assumption)) _ _))
       |go_keep)
     (first
       |(go_at_call 7;refine(HOF.out _ (hE.out _ (by repeat' (first|assumption|exact Bz.refl _|refine Bz.drew ?_|refine Bz.alloc ?_ _|refine Bz.set ?_ (by first|assumption|exact Nat.le_refl _|exact Bz.size (by assumption)) _ _)))).mono ?_;rintro e v1 ⟨rfl,hb1⟩;have hz1:Bz w4 v1:=Bz.call (by repeat' (first|assumption|exact Bz.refl _|refine Bz.drew ?_|refine Bz.alloc ?_ _|refine Bz.set ?_ (by first|assumption|exact Nat.le_refl _|exact Bz.size (by assumption)) _ _)) hb1)
       |(go_at_call 17;refine(HMU.out _ (hE.out _ (by repeat' (first|assumption|exact Bz.refl _|refine Bz.drew ?_|refine Bz.alloc ?_ _|refine Bz.set ?_ (by first|assumption|exact Nat.le_refl _|exact Bz.size (by assumption)) _ _)))).mono ?_;rintro e v2 ⟨rfl,hb2⟩;have hz2:Bz w4 v2:=Bz.call (by repeat' (first|assumption|exact Bz.refl _|refine Bz.drew ?_|refine Bz.alloc ?_ _|refine Bz.set ?_ (by first|assumption|exact Nat.le_refl _|exact Bz.size (by assumption)) _ _)) hb2)
       |(go_at_call 16;refine(HRO.out _ (hE.out _ (by repeat' (first|assumption|exact Bz.refl _|refine Bz.drew ?_|refine Bz.alloc ?_ _|refine Bz.set ?_ (by first|assumption|exact Nat.le_refl _|exact Bz.size (by assumption)) _ _)))).mono ?_;rintro e v3 ⟨rfl,hb3⟩;have hz3:Bz w4 v3:=Bz.call (by repeat' (first|assumption|exact Bz.refl _|refine Bz.drew ?_|refine Bz.alloc ?_ _|refine Bz.set ?_ (by first|assumption|exact Nat.le_refl _|exact Bz.size (by assumption)) _ _)) hb3))
    all_goals
     go_wp2_with fail
     go_meet
     exact⟨rfl,hz3⟩
   case rest=>
   obtain⟨rfl,HZ⟩:=hcut
   have H5:=jq (H4.out.here HZ.out);have HS5:=jq (HS4.out.here HZ.out);clear HZ hS hE H4 HS4 HOF HMU HRO HTO;have HNC:=jq (show cl.length<=1000000 by rw[<-hcl];simp;omega);have HTL:=jq (show(Qa mv).length<=1000 by have:=Qf HMM.out;omega);have HCV:=jq (show cl.map val=lo.map (fun z=>val z.c) by rw[<-hcl,List.map_map];rfl);have HCN:=jq (show cl.length=lo.length by rw[<-hcl];simp);rw[<-HCV.out] at HCP
   by_cases hc0:QE (Qa mv) cl=0
   ·rw[if_neg (by simpa using hc0)] at HCP;have hsp:=hc0;unfold QE at hsp
    split at hsp
    ·cases hsp
    rename_i s1
    split at hsp
    ·cases hsp
    rename_i s2
    split at hsp
    ·cases hsp
    rename_i s3
    split at hsp
    ·cases hsp
    rename_i s4
    have hw0:∀x∈cl,0<=val x:=fun x hx=>by
     refine Int.not_lt.1 fun h=>s3 (.inr (List.any_eq_true.2 ⟨x,hx,?_⟩))
     simp[h]
    have hsv:0<QM cl:=by
     have h1:0<=QM cl:=by
      unfold QM;refine Qx fun x hx=> ?_
      obtain⟨z,hz,rfl⟩:=List.mem_map.1 hx
      exact hw0 z hz
     omega
    have hn0:0<cl.length:=List.length_pos_iff.2 s1;have HSP:=jq (ZfI (Qa mv) A1 cl.length c1 cl wc H5.out.pw HS5.out HTL.out HLC.out hn0 (by omega) (by rw[Qd]) (by rw[Qd];exact HM0.out) hw0 hsv hc0);rw[Qd] at HSP;unfold Jk at HSP;have HPN:=jq (show(Xi mv (cl.map val)).length=cl.length by rw[JO];simp);generalize Xi mv (cl.map val)=ps at*;clear hsp s1 s2 s3 s4 hw0 hsv hn0 hc0;unfold S at HSP;go_wp2_with fail
    refine HSP.out.mono ?_;rintro e w6 ⟨P,rfl,hB,hP,hb6⟩;have HB6:=jq hB;have HPP:=jq (Nat.le_trans H5.out.bl.size hP);clear hB hP;go_wp2_with fail
    first|go_ret2|go_ret|skip
    rw[HPO.out,HCP.out];refine⟨some ⟨P,0,none⟩,cl.length,?_,?_,(fun a h=>by injection h with h;rw[<-h];exact HPP.out),(H5.out.here hb6).bl⟩
    ·show _=Ending.returned (.tuple #[.slice (some ⟨P,0,none⟩) ps.length cl.length,.int .i64 0])
     rw[HPN.out];rfl
    ·show VO _ _ _ ps.length (ps.map Qa)
     rw[HPN.out];exact JW HB6.out HPN.out
   ·rw[if_pos hc0] at HCP;have HSP:=jq (ZfJ (Qa mv) A1 cl.length c1 cl wc H5.out.pw HS5.out HTL.out HLC.out HNC.out hc0);have hr0:(QE (Qa mv) cl==0)=false:=beq_false_of_ne hc0;generalize QE (Qa mv) cl=er at*;have hlc:=HNC.out;have hmk:=run_make_row' (P:=Tryz.prog) 33 24 (.string ⟨#[]⟩) 16 Tryz.underlying33 ZiN rfl .i64 .i64 cl.length (by omega) (by omega);rw[Xx (lo.map (fun _=>(0:Int))),Zcw (lo.map (fun _=>(0:Int))) cl.length (fun x hx=>by obtain⟨_,_,rfl⟩:=List.mem_map.1 hx;rfl)] at hmk;clear hc0;unfold S at HSP;go_wp2_with fail
    refine HSP.out.mono ?_;rintro e w6 ⟨rfl,hb6⟩;have H6:=jq (H5.out.here hb6);clear hb6;go_wp2_with fail
    first|go_ret2|go_ret|skip
    have HB6:=H6.out.new w6.1.size rfl (Qn (lo.map (fun _=>(0:Int))) cl.length cl.length) 24;have hzl:(lo.map (fun _=>(0:Int))).length=cl.length:=by rw[HCN.out];simp
    rw[HPO.out,HCP.out];refine⟨some ⟨w6.1.size,0,none⟩,cl.length,?_,?_,(fun a h=>by injection h with h;rw[<-h];exact H6.out.bl.size),HB6.bl⟩
    ·show _=Ending.returned (.tuple #[.slice (some ⟨w6.1.size,0,none⟩) (lo.map (fun _=>(0:Int))).length cl.length,.int .i64 0])
     rw[hzl];rfl
    ·show VO _ _ _ (lo.map (fun _=>(0:Int))).length ((lo.map (fun _=>(0:Int))).map Qa)
     rw[hzl];exact JW (HB6.at_ 0 rfl) hzl
end
section
def Fct.sh(f:Fct)(g:Fr):Fct:={f with share:=g}
def Zdy:KRow:=⟨1,[(7,false,false),(8,true,false),(9,false,true)],[0,1],false⟩
theorem Zhq:QY false true ⟨[],[]⟩=0:=by decide+kernel
theorem ZiA:QY false true ⟨[49],[]⟩=0:=by decide+kernel
theorem Zjg(f:Fct)(i:Nat)(hi:i<13)(h9:Zdy.has i=true):Yc (f.sh ⟨[],[]⟩) Zdy i=Yc (f.sh ⟨[49],[]⟩) Zdy i:=by
 match i,hi,h9 with
 |0,_,_=>rfl
 |1,_,_=>rfl
 |2,_,h=>exact absurd h (by decide)
 |3,_,h=>exact absurd h (by decide)
 |4,_,h=>exact absurd h (by decide)
 |5,_,h=>exact absurd h (by decide)
 |6,_,h=>exact absurd h (by decide)
 |7,_,_=>rfl
 |8,_,_=>rfl
 |9,_,_=>
  show QY false true ⟨[],[]⟩=QY false true ⟨[49],[]⟩
  rw[Zhq,ZiA]
 |10,_,h=>exact absurd h (by decide)
 |11,_,h=>exact absurd h (by decide)
 |12,_,h=>exact absurd h (by decide)
theorem ZiB(f:Fct)(i:Nat)(hi:i<13)(h9:¬Zdy.has i=true):(f.sh ⟨[],[]⟩).none i=(f.sh ⟨[49],[]⟩).none i:=by
 match i,hi,h9 with
 |0,_,h=>exact absurd (by decide) h
 |1,_,h=>exact absurd (by decide) h
 |2,_,_=>rfl
 |3,_,_=>rfl
 |4,_,_=>rfl
 |5,_,_=>rfl
 |6,_,_=>rfl
 |7,_,h=>exact absurd (by decide) h
 |8,_,h=>exact absurd (by decide) h
 |9,_,h=>exact absurd (by decide) h
 |10,_,_=>rfl
 |11,_,_=>rfl
 |12,_,_=>rfl
theorem ZiC(f:Fct):∀(n i:Nat),i+n<=13->XU (f.sh ⟨[],[]⟩) Zdy i n=XU (f.sh ⟨[49],[]⟩) Zdy i n:=by
 intro n
 induction n with
 |zero=>intro i _;rfl
 |succ n ih=>
  intro i hi;unfold XU;rw[ih (i+1) (by omega)]
  by_cases h:Zdy.has i=true
  ·rw[if_pos h,if_pos h,Zjg f i (by omega) h]
  ·rw[if_neg h,if_neg h,ZiB f i (by omega) h]
theorem Zjh(f:Fct)(hk:f.kind=9):Xk (f.sh ⟨[],[]⟩)=Xk (f.sh ⟨[49],[]⟩):=by
 have hv:∀g:Fr,¬f.sh g=⟨f.key,f.stamp,true,0,0,[],[],[],[],[],[],[],⟨[],[]⟩,⟨[],[]⟩,⟨[],[]⟩,[],[],0⟩:=fun g e=>by
  have:=congrArg Fct.kind e
  have h2:(f.sh g).kind=f.kind:=rfl;rw[h2,hk] at this
  cases this
 have key:∀g:Fr,Xk (f.sh g)=if Qp f.key=false then 23 else if f.stamp<0 then 2 else if f.cancelled=true then 1 else if f.day< -25567\/84005<f.day then 13 else XU (f.sh g) Zdy 0 13:=by
  intro g
  have e:Xk (f.sh g)=if Qp f.key=false then 23 else if f.stamp<0 then 2
   else if f.cancelled=true then(if f.sh g=⟨f.key,f.stamp,true,0,0,[],[],[],[],[],[],[],⟨[],[]⟩,⟨[],[]⟩,⟨[],[]⟩,[],[],0⟩ then 0 else 1)
   else if f.day< -25567\/84005<f.day then 13
   else match XM f.kind with
    |none=>7
    |some r=>XU (f.sh g) r 0 13:=rfl
  rw[e,if_neg (hv g),hk];rfl
 rw[key,key,ZiC f 13 0 (by omega)]
theorem ZiD(f:Fct):decide (Ya (f.sh ⟨[],[]⟩)=0)=decide (Ya (f.sh ⟨[49],[]⟩)=0):=by
 by_cases hk:f.kind=9
 ·have h:Ya (f.sh ⟨[],[]⟩)=Ya (f.sh ⟨[49],[]⟩):=by
   unfold Ya;rw[Zjh f hk];rfl
  rw[h]
 ·have h:∀g:Fr,¬Ya (f.sh g)=0:=fun g e=>by
   unfold Ya at e
   split at e
   ·rename_i h1;exact h1 e
   ·have hk':(f.sh g).kind≠9:=hk;rw[if_pos hk'] at e
    cases e
  rw[decide_eq_false (h _),decide_eq_false (h _)]
theorem Zhr(ls:List Lot)(f:Fct):Xd ls (f.sh ⟨[],[]⟩)=Xd ls (f.sh ⟨[49],[]⟩):=by
 unfold Xd;rw[ZiD]
theorem YO{ls:List Lot}{f:Fct}(h:Xd ls f=true):ls.length<=1000/\∀x∈ls,x.Ok:=by
 unfold Xd at h;rw[Bool.and_eq_true,decide_eq_true_eq,decide_eq_true_eq] at h;have h1:=h.1;unfold Zau at h1
 split at h1
 ·cases h1
 ·rename_i hn
  exact⟨by omega,((ZcH [] ls).1 h1).1⟩
theorem Za4{ws:List Int}(h:∀w∈ws,0<=w)(h0:¬ws.sum=0):0<ws.sum:=by
 have:=Qx h
 omega
theorem Zbn(S w:Int):(S*w).fmod S=0:=Int.mul_fmod_right S w
theorem Zek(lo:List Lot):(lo.map (·.c)).map val=lo.map (fun z=>val z.c):=by rw[List.map_map];rfl
theorem ZfM{ls:List Lot}{f:Fct}{t:Int}(h:Xd ls f=true)(hc:QE (Qa t) ((Qb ls f.inst).map (·.c))≠0):((Qb ls f.inst).map (fun z=>val z.c)).sum=0:=by
 obtain⟨h1,h2⟩:=YO h
 have hok:∀z∈Qb ls f.inst,z.Ok:=fun z hz=>h2 z (List.mem_filter.1 hz).1
 have hl:(Qb ls f.inst).length<=ls.length:=List.length_filter_le _ _;unfold QE at hc
 split at hc
 ·rename_i e
  rw[List.map_eq_nil_iff] at e;rw[e];rfl
 split at hc
 ·rename_i e
  rw[List.length_map] at e;omega
 split at hc
 ·rename_i e
  exfalso
  rcases e with e|e
  ·unfold QU at e;rw[Qd] at e;simp at e
  ·obtain⟨x,hx,hb⟩:=List.any_eq_true.1 e
   obtain⟨z,hz,rfl⟩:=List.mem_map.1 hx
   have:=hok z hz
   rw[this.c] at hb;have h0:=this.c0;simp at hb;omega
 split at hc
 ·rename_i e
  unfold QM at e
  rwa [Zek] at e
 ·exact absurd rfl hc
theorem Za5{lo:List Lot}(h:∀w∈lo.map (fun z=>val z.c),0<=w)(hs:(lo.map (fun z=>val z.c)).sum=0):lo.map (fun _=>(0:Int))=lo.map (fun z=>val z.c):=by
 refine List.map_congr_left fun z hz=> ?_
 exact(Zb2 h hs _ (List.mem_map.2 ⟨z,hz,rfl⟩)).symm
theorem Zel(ls:List Lot)(f:Fct)(h:Xd ls (f.sh ⟨[],[]⟩)=true):XG ls (f.sh ⟨[],[]⟩)=((Qb ls f.inst).map (fun _=>0),0):=by
 have hm:XK ls (f.sh ⟨[],[]⟩)=0:=by
  unfold XK;have e:(f.sh ⟨[],[]⟩).share.rat=0:=(show(⟨[],[]⟩:Fr).rat=0 by decide+kernel);rw[e,Rat.zero_mul];exact Zad 0
 unfold XG;rw[if_neg (by rw[h];decide),hm]
 show(if QE (Qa 0) ((Qb ls f.inst).map (·.c))≠0 then((Qb ls f.inst).map (fun _=>(0:Int)),(0:Int)) else(Xi 0 ((Qb ls f.inst).map (fun z=>val z.c)),0))=_
 by_cases hc:QE (Qa 0) ((Qb ls f.inst).map (·.c))=0
 ·rw[if_neg (by simpa using hc)];obtain⟨h1,h2⟩:=YO h
  have hw:∀w∈(Qb ls f.inst).map (fun z=>val z.c),0<=w:=fun w hw=>by
   obtain⟨z,hz,rfl⟩:=List.mem_map.1 hw
   exact(h2 z (List.mem_filter.1 hz).1).c0
  have hs:¬((Qb ls f.inst).map (fun z=>val z.c)).sum=0:=fun e=>by
   unfold QE at hc
   split at hc
   ·cases hc
   split at hc
   ·cases hc
   split at hc
   ·cases hc
   split at hc
   ·cases hc
   ·rename_i e2
    unfold QM at e2;rw[Zek] at e2;exact e2 e
  rw[Za0 (Za4 hw hs) (fun w _=>by rw[Int.zero_mul];exact Int.zero_fmod _),List.map_map]
  congr 1
  refine List.map_congr_left fun z _=> ?_
  simp
 ·rw[if_pos hc]
theorem Zem(ls:List Lot)(f:Fct)(h:Xd ls (f.sh ⟨[49],[]⟩)=true):XG ls (f.sh ⟨[49],[]⟩)=((Qb ls f.inst).map (fun z=>val z.c),0)/\∀z∈Qb ls f.inst,Qa (val z.c)=z.c:=by
 obtain⟨h1,h2⟩:=YO h
 have hok:∀z∈Qb ls f.inst,z.Ok:=fun z hz=>h2 z (List.mem_filter.1 hz).1
 refine⟨?_,fun z hz=>(ZhJ (hok z hz).c).symm⟩
 have hw:∀w∈(Qb ls f.inst).map (fun z=>val z.c),0<=w:=fun w hw=>by
  obtain⟨z,hz,rfl⟩:=List.mem_map.1 hw
  exact(hok z hz).c0
 have hm:XK ls (f.sh ⟨[49],[]⟩)=((Qb ls f.inst).map (fun z=>val z.c)).sum:=by
  unfold XK;have e:(f.sh ⟨[49],[]⟩).share.rat=1:=(show(⟨[49],[]⟩:Fr).rat=1 by decide+kernel);rw[e,Rat.one_mul];exact Zad _
 unfold XG;rw[if_neg (by rw[h];decide),hm]
 show(if QE (Qa ((Qb ls f.inst).map (fun z=>val z.c)).sum) ((Qb ls f.inst).map (·.c))≠0 then((Qb ls f.inst).map (fun _=>(0:Int)),(0:Int)) else(Xi ((Qb ls f.inst).map (fun z=>val z.c)).sum ((Qb ls f.inst).map (fun z=>val z.c)),0))=_
 by_cases hc:QE (Qa ((Qb ls f.inst).map (fun z=>val z.c)).sum) ((Qb ls f.inst).map (·.c))=0
 ·rw[if_neg (by simpa using hc)]
  have hs:¬((Qb ls f.inst).map (fun z=>val z.c)).sum=0:=fun e=>by
   unfold QE at hc
   split at hc
   ·cases hc
   split at hc
   ·cases hc
   split at hc
   ·cases hc
   split at hc
   ·cases hc
   ·rename_i e2
    unfold QM at e2;rw[Zek] at e2;exact e2 e
  have hp:=Za4 hw hs;generalize (Qb ls f.inst).map (fun z=>val z.c)=ws at*;rw[Za0 hp (fun w _=>Zbn _ _)]
  congr 1
  refine(List.map_congr_left fun w _=> ?_).trans (List.map_id ws);exact Int.mul_fdiv_cancel_left _ (by omega)
 ·rw[if_pos hc];have hz:((Qb ls f.inst).map (fun z=>val z.c)).sum=0:=ZfM (f:=f.sh ⟨[49],[]⟩) h hc;rw[Za5 hw hz]
end
end Go.Proofs.YtlhmkgmojgnaaaaGreatDoor
