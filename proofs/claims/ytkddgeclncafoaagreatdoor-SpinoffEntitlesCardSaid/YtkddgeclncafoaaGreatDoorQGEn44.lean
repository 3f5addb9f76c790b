/- X13, SEn. -/
import Derived.Test.YtkddgeclncafoaaGreatDoorQGEn43
import Derived.Test.YtkddgeclncafoaaGreatDoorQGEn6c
import Derived.Test.YtkddgeclncafoaaGreatDoorQGEn35
set_option maxRecDepth 100000
set_option maxHeartbeats 8000000
namespace Go.Proofs.YtkddgeclncafoaaGreatDoor
open Go.Lib renaming hid→jq
open Go.RowKit Go.Shelf
section
attribute [local go_sem] Oper.semAt_some
attribute [local go_sem ↓] Go.wp_at_zero Go.wp_at_succ Xz
theorem ZhK{t:List UInt8}{cl:List (List UInt8)}(hn:cl.length<=1000)(ht:QH t=true)(hc:∀x∈cl,QH x=true)(h0:∀x∈cl,0<=val x):QN t cl=if cl=[] then 11 else if Qz cl=0 then 10 else 0:=by
 unfold QN
 by_cases h1:cl=[]
 ·rw[if_pos h1,if_pos h1]
 ·rw[if_neg h1,if_neg h1,if_neg (Nat.not_lt.2 hn),if_neg (by
   rintro(h|h)
   ·rw[ht] at h;cases h
   ·obtain⟨x,hx,hb⟩:=List.any_eq_true.1 h
    rw[hc x hx,decide_eq_false (by have:=h0 x hx;omega)] at hb
    cases hb)]
theorem Zmg{mv:Int}{lo:List Lot}(hn:lo.length<=1000)(hc:∀z∈lo,QH z.c=true)(h0:∀z∈lo,0<=val z.c):
 (if QN (Qa mv) (lo.map (·.c))≠0 then(lo.map (fun _=>(0:Int)),(0:Int)) else(Xs mv (lo.map (fun z=>val z.c)),0))=(YK mv ((lo.map (·.c)).map val),0):=by
 have e:(lo.map (·.c)).map val=lo.map (fun z=>val z.c):=by rw[List.map_map];rfl
 have ez:(lo.map (fun z=>val z.c)).map (fun _=>(0:Int))=lo.map (fun _=>(0:Int)):=by rw[List.map_map];rfl
 have es:Qz (lo.map (·.c))=(lo.map (fun z=>val z.c)).sum:=by unfold Qz;rw[e]
 have hv:=ZhK (t:=Qa mv) (cl:=lo.map (·.c)) (by rw[List.length_map];exact hn) (Zbs mv) (fun x hx=>by obtain⟨z,hz,rfl⟩:=List.mem_map.1 hx;exact hc z hz) (fun x hx=>by obtain⟨z,hz,rfl⟩:=List.mem_map.1 hx;exact h0 z hz);rw[es] at hv;rw[e,hv];unfold YK
 by_cases h1:lo.map (·.c)=[]
 ·have h2:lo=[]:=List.map_eq_nil_iff.1 h1;subst h2;rfl
 ·rw[if_neg h1]
  by_cases hs:(lo.map (fun z=>val z.c)).sum=0
  ·rw[if_pos hs,if_pos hs,if_pos (by decide),ez]
  ·rw[if_neg hs,if_neg hs,if_neg (by decide)]
theorem ZhL(A:Option Addr)(n c:Nat)(ls:List Lot)(f:Fct)(v:FaV)(w:World)(hp:Env w)(hs:YI w w.1.size A n ls)(hl:∀x∈ls,x.Sz 50000)(hc:∀x∈ls,x.c.length<=13)(hn:n<=1002)(hcap:n<=c)(hf:f.Sz 1000)(hsh:f.share.Sz 13)(hm:FaM w w.1.size f v)(hpn:v.pn<=100000)(hon:v.on<=100000):
 Calls Tryz.prog 9 #[.slice A n c,.agg (Qk f v)] w (VA (XR ls f) w):=by
 have HPO:=jq (show VA (XR ls f) w=fun e w'=>∃A c,e=.returned (.tuple #[.slice A (XR ls f).1.length c,.int .i64 (XR ls f).2])/\Yu w' w'.1.size A (XR ls f).1.length ((XR ls f).1.map Qa)/\(∀a:Addr,A=some a->w.1.size<=a.block)/\Below w.1.size w w' from rfl);generalize VA (XR ls f) w=post at*;have H:=jq ((Kp.start hp).new w.1.size rfl (Qk f v) 30);have hll:=QD (H.out.at_ 0 rfl) (QJ f v);have hls:ls.length<=1002:=by rw[<-hs.1];exact hn
 have htot:=Zl6 (i:=f.inst) hc hls;have HVA:=jq (fun W (hb:Below w.1.size w W)=>Zdd A n c ls f v W (hp.here hb) (hs.here hb) hl (by omega) hcap hf (hm.here hb) hpn hon);have HLO:=jq (fun W (hb:Below w.1.size w W)=>Zl1 A n c ls f.inst W (hs.here hb) (by omega));have r1:RB 18 ((QZ ls f.inst (fun z=>val z.c):Int):Rat):=ZaU htot (by omega);have r2:RB 18 f.share.rat:=Zcq (hsh.more (by omega)) (by omega);have r3:=Ze5 r2 r1;have hmv:(XW ls f).natAbs<10^39:=Zl3 r3 (by omega);have HOF:=jq (fun W=>VH (Qa (QZ ls f.inst (fun z=>val z.c))) W (by have:=Qg htot;omega));rw[Qc] at HOF;have HMU:=jq (fun W=>Zf6 f.share (Qd ((QZ ls f.inst (fun z=>val z.c):Int):Rat)) W (hsh.more (by omega)) ((QV r1).more (by omega)));rw[Qj] at HMU;have HRO:=jq (fun W (hp:Env W)=>ZgB (Qd (f.share.rat*((QZ ls f.inst (fun z=>val z.c):Int):Rat))) ((QV r3).more (by omega)) W hp);rw[Qj,show rnd (f.share.rat*((QZ ls f.inst (fun z=>val z.c):Int):Rat))=XW ls f from rfl] at HRO
 have HCP:=jq (show XR ls f=if XF ls f=false then([],1)
  else if QN (Qa (XW ls f)) ((Qf ls f.inst).map (·.c))≠0 then((Qf ls f.inst).map (fun _=>0),0)
  else(Xs (XW ls f) ((Qf ls f.inst).map (fun z=>val z.c)),0) from rfl)
 have HVT:=jq (show XF ls f=true->0<=XW ls f/\(Qf ls f.inst).length<=1000/\(∀z∈Qf ls f.inst,QH z.c=true)/\(∀z∈Qf ls f.inst,0<=val z.c)/\(XW ls f≠0->0<QZ ls f.inst (fun z=>val z.c)) from fun h=>by
  unfold XF at h;rw[Bool.and_eq_true,decide_eq_true_eq,decide_eq_true_eq] at h;have h1:=(Zdf (Zde h.2)).1
  have h3:ls.length<=1000:=by
   have:=h.1
   unfold Vm at this
   split at this
   ·cases this
   ·omega
  have h2:=(Zcr [] ls).1 (by have:=h.1;unfold Vm at this;split at this<;>first|(cases this;done)|exact this)
  have h4:0<=QZ ls f.inst (fun z=>val z.c):=by
   unfold QZ;refine QI ?_;intro x hx;obtain⟨z,hz,rfl⟩:=List.mem_map.1 hx
   exact(h2.1 z (List.mem_filter.1 hz).1).c0
  refine⟨Vp (Rat.mul_nonneg h1 (by exact_mod_cast h4)),Nat.le_trans (List.length_filter_le _ _) h3,fun z hz=>(h2.1 z (List.mem_filter.1 hz).1).c,fun z hz=>(h2.1 z (List.mem_filter.1 hz).1).c0,fun hne=> ?_⟩
  rcases Int.lt_or_eq_of_le h4 with h5|h5
  ·exact h5
  ·exfalso
   apply hne
   show rnd (f.share.rat*((QZ ls f.inst (fun z=>val z.c):Int):Rat))=0
   rw[<-h5];rw[show((0:Int):Rat)=0 from rfl,Rat.mul_zero];decide+kernel)
 have HFB:=jq (QJ f v);have K5:=jq (show(Qk f v)[5]?=some (.string ⟨f.inst.toArray⟩) from rfl);have K16:=jq (show(Qk f v)[16]?=some (.string ⟨f.share.n.toArray⟩) from rfl);have K17:=jq (show(Qk f v)[17]?=some (.string ⟨f.share.d.toArray⟩) from rfl)
 have HLC:=jq (show ∀x∈(Qf ls f.inst).map (·.c),x.length<=1000 from fun x hx=>by
  obtain⟨z,hz,rfl⟩:=List.mem_map.1 hx
  have:=hc z (List.mem_filter.1 hz).1
  omega)
 have HMM:=jq hmv;have HTV:=jq (show QZ ls f.inst (fun z=>val z.c)=Qz ((Qf ls f.inst).map (·.c)) by unfold QZ Qz;rw[List.map_map];rfl);generalize XR ls f=res at*;generalize XW ls f=mv at*;generalize XF ls f=vb at*;generalize Qd (f.share.rat*((QZ ls f.inst (fun z=>val z.c):Int):Rat))=fm at*;generalize Qd ((QZ ls f.inst (fun z=>val z.c):Int):Rat)=ft at*;generalize QZ ls f.inst (fun z=>val z.c)=tt at*;generalize Qf ls f.inst=lo at*;generalize Qk f v=fb at*;clear hp hs hl hc hn hcap hf hsh hm hpn hon hls htot r1 r2 r3 hmv;unfold Qh Qq S at*
 cases vb with
 |false=>
  rw[if_pos rfl] at HCP;go_enter Tryz.func9,Tryz.ntmps9
  go_wp2_with fail
  refine(HVA.out _ H.out.bl).mono ?_;rintro e w1 ⟨rfl,hb1⟩;go_wp2_with fail
  first|go_ret|go_ret2|skip
  rw[HPO.out,HCP.out];exact⟨none,0,rfl,Sl.nil,(fun _ h=>by cases h),(H.out.here hb1).bl⟩
 |true=>
 rw[if_neg (by decide)] at HCP;obtain⟨hm0,hl0,hcc,hc0,hmt⟩:=HVT.out rfl
 rw[Zmg hl0 hcc hc0] at HCP;have HM0:=jq hm0;have HL0:=jq hl0;have HC0:=jq (show ∀x∈lo.map (·.c),QH x=true from fun x hx=>by obtain⟨z,hz,rfl⟩:=List.mem_map.1 hx;exact hcc z hz);have HC1:=jq (show ∀x∈lo.map (·.c),0<=val x from fun x hx=>by obtain⟨z,hz,rfl⟩:=List.mem_map.1 hx;exact hc0 z hz);have HMT:=jq (show mv≠0->0<Qz (lo.map (·.c)) from by rw[<-HTV.out];exact hmt);have HTL:=jq (show(Qa mv).length<=1000 by have:=Qg HMM.out;omega);clear hm0 hl0 hcc hc0 hmt HVT HMM;go_enter Tryz.func9,Tryz.ntmps9
 go_wp2_with fail
 refine(HVA.out _ H.out.bl).mono ?_;rintro e w1 ⟨rfl,hb1⟩;have H1:=jq (H.out.here hb1);have x5:=H1.out.c 0 5 rfl K5.out;clear hll H hb1 HVA;go_wp2_with fail
 refine(HLO.out _ H1.out.bl).mono ?_;rintro e w2 ⟨A2,c2,rfl,ho2,hb2⟩;have H2:=jq (H1.out.here hb2);have HCO:=jq (ZdA A2 lo.length c2 lo w2 (ho2.sl Zbt) HL0.out);clear x5 ho2 hb2 H1 HLO;go_wp2_with fail
 refine HCO.out.mono ?_;rintro e w3 ⟨A3,c3,A4,c4,rfl,_,ho4,hb3⟩;have H3:=jq (H2.out.here hb3);have HCN:=jq (show(lo.map (·.c)).length=lo.length from List.length_map ..);have HS3:=jq (show Yu w3 w3.1.size A4 lo.length (lo.map (·.c)) from by rw[<-HCN.out] at ho4 ⊢; exact ho4.sl Vu);clear ho4 hb3 HCO H2;go_wp2_with fail
 generalize lo.map (·.c)=cl at*;generalize lo.length=m at*;have HB0:=jq (Below.refl w3.1.size w3)
 go_loopw [8,9] (fun s j wr=>∃k:Nat,k<=m/\j=.int .i64 k/\s=.string ⟨(Qa (Qz (cl.take k))).toArray⟩/\Hid (Below w3.1.size w3 wr)) (fun _ j _=>m-(intOf j).toNat)
 case atStart=>exact⟨0,Nat.zero_le _,rfl,rfl,HB0⟩
 case round=>
  clear HB0;obtain⟨k,hk,rfl,rfl,HB⟩:=hrel
  have hmm:=HL0.out
  by_cases hlt:k<m
  ·obtain⟨b,off,y,rfl,hb,hy,d0⟩:=(HS3.out.below HB.out).st hlt
   have HTK:=jq (show Qz (cl.take (k+1))=Qz (cl.take k)+val y by
    obtain⟨h1,h2⟩:=List.getElem?_eq_some_iff.1 hy
    rw[List.take_succ_eq_append_getElem h1,h2,ZdG])
   have hym:=List.mem_of_getElem? hy;have HAD:=jq (fun W=>Yi (Qa (Qz (cl.take k))) y W (by have:=Jc (ws:=cl.take k) (L:=1000) (fun x hx=>HLC.out x (List.mem_of_mem_take hx)) (by rw[List.length_take];have:=HL0.out;omega);omega) (by have:=HLC.out y hym;omega));rw[Qc,<-HTK.out] at HAD;clear hy hym HTK;unfold Qo S at HAD;go_wp2_with fail
   refine(HAD.out _).mono ?_;rintro e w5 ⟨rfl,hb5⟩;go_wp2_with fail
   go_roundw
   case rel=>exact⟨k+1,by omega,by go_num,rfl,HB.out.trans (hb5.mono HB.out.size)⟩
   case measure=>simp[intOf];omega
  ·obtain rfl:k=m:=by omega
   have HE:=jq (show cl.take k=cl by rw[List.take_of_length_le (by have:=HCN.out;omega)]);rw[HE.out,<-HTV.out];clear HE;have H4:=jq (H3.out.here HB.out);have HS4:=jq (HS3.out.here HB.out);clear HB H3 HS3;have HSP:=jq (fun W (h:Bz wr W)=>ZgA mv A4 k c4 cl W (H4.out.here h).pw (HS4.out.here h) HTL.out HLC.out HL0.out HM0.out HC0.out HC1.out HMT.out);have hS:=jq (fun V (h:Bz wr V)=>(show V.cell? ⟨w.1.size,16,none⟩=some (.string ⟨f.share.n.toArray⟩)/\V.cell? ⟨w.1.size,17,none⟩=some (.string ⟨f.share.d.toArray⟩) from⟨(H4.out.here h).c 0 16 rfl K16.out,(H4.out.here h).c 0 17 rfl K17.out⟩));have hE:=jq (fun V (h:Bz wr V)=>(H4.out.here h).pw);have HDN:=jq (show(YK mv (cl.map val)).length=k by rw[JH,List.length_map,HCN.out]);generalize YK mv (cl.map val)=ps at*;unfold Jr S at HSP;clear HTV HMT HC0 HC1 HLC HTL HM0 HL0;go_upto_region 9 with (fail)
   go_region_held3 (fun V=>V.cell? ⟨w.1.size,16,none⟩=some (.string ⟨f.share.n.toArray⟩)/\V.cell? ⟨w.1.size,17,none⟩=some (.string ⟨f.share.d.toArray⟩))
    (first
      |exact hS.out _ (by repeat' (first|assumption|exact Bz.refl _|refine Bz.drew ?_|refine Bz.alloc ?_ _|refine Bz.set ?_ (by first|assumption|exact Nat.le_refl _|exact Bz.size (by assumption)) _ _))
      |go_keep)
    (first
      |(go_at_call 33;refine(HOF.out _).mono ?_;rintro e v1 ⟨rfl,hb1⟩;have hz1:Bz wr v1:=Bz.call (by repeat' (first|assumption|exact Bz.refl _|refine Bz.drew ?_|refine Bz.alloc ?_ _|refine Bz.set ?_ (by first|assumption|exact Nat.le_refl _|exact Bz.size (by assumption)) _ _)) hb1)
      |(go_at_call 32;refine(HMU.out _).mono ?_;rintro e v2 ⟨rfl,hb2⟩;have hz2:Bz wr v2:=Bz.call (by repeat' (first|assumption|exact Bz.refl _|refine Bz.drew ?_|refine Bz.alloc ?_ _|refine Bz.set ?_ (by first|assumption|exact Nat.le_refl _|exact Bz.size (by assumption)) _ _)) hb2)
      |(go_at_call 31;refine(HRO.out _ (hE.out _ (by repeat' (first|assumption|exact Bz.refl _|refine Bz.drew ?_|refine Bz.alloc ?_ _|refine Bz.set ?_ (by first|assumption|exact Nat.le_refl _|exact Bz.size (by assumption)) _ _)))).mono ?_;rintro e v3 ⟨rfl,hb3⟩;have hz3:Bz wr v3:=Bz.call (by repeat' (first|assumption|exact Bz.refl _|refine Bz.drew ?_|refine Bz.alloc ?_ _|refine Bz.set ?_ (by first|assumption|exact Nat.le_refl _|exact Bz.size (by assumption)) _ _)) hb3)
      |(go_at_call 30;refine(HSP.out _ (by repeat' (first|assumption|exact Bz.refl _|refine Bz.drew ?_|refine Bz.alloc ?_ _|refine Bz.set ?_ (by first|assumption|exact Nat.le_refl _|exact Bz.size (by assumption)) _ _))).mono ?_;rintro e v4 ⟨P,rfl,hB4,hP4,hb4⟩;have hz4:Bz wr v4:=Bz.call (by repeat' (first|assumption|exact Bz.refl _|refine Bz.drew ?_|refine Bz.alloc ?_ _|refine Bz.set ?_ (by first|assumption|exact Nat.le_refl _|exact Bz.size (by assumption)) _ _)) hb4;have hP5:wr.1.size<=P:=Nat.le_trans (Bz.size (by repeat' (first|assumption|exact Bz.refl _|refine Bz.drew ?_|refine Bz.alloc ?_ _|refine Bz.set ?_ (by first|assumption|exact Nat.le_refl _|exact Bz.size (by assumption)) _ _))) hP4))
   all_goals
    go_wp2_with fail
    first|go_ret2|go_ret|skip
    rw[HPO.out,HCP.out];refine⟨some ⟨P,0,none⟩,k,?_,?_,(fun a h=>by injection h with h;rw[<-h];exact Nat.le_trans H4.out.bl.size hP5),(H4.out.here hz4).bl⟩
    ·show _=Ending.returned (.tuple #[.slice (some ⟨P,0,none⟩) ps.length k,.int .i64 0])
     rw[HDN.out];rfl
    ·show Yu _ _ _ ps.length (ps.map Qa)
     rw[HDN.out];exact Zaa hB4 HDN.out
end
section
attribute [local go_sem] Oper.semAt_some
attribute [local go_sem ↓] Go.wp_at_zero Go.wp_at_succ Xz
theorem ZgC(A A':Option Addr)(n c c':Nat)(xs:List (List UInt8))(w:World)(h1:Yu w w.1.size A n xs)(h2:Yu w w.1.size A' n xs)(hn:n<=1000000):
 Calls Tryz.prog 10 #[.slice A n c,.slice A' n c'] w fun e w'=>e=.returned (.bool true)/\Below w.1.size w w':=by
 have H1:=jq h1;have H2:=jq h2;clear h1 h2;have hne:((n:Int) !=(n:Int))=false:=by simp
 go_enter Tryz.func10,Tryz.ntmps10
 go_wp2_with fail
 go_loopw [5,13] (fun _ j wr=>∃k:Nat,k<=n/\j=.int .i64 k/\Hid (Below w.1.size w wr)) (fun _ j _=>n-(intOf j).toNat)
 case atStart=>exact⟨0,Nat.zero_le _,rfl,Below.refl _ _⟩
 case round=>
  obtain⟨k,hk,rfl,HB⟩:=hrel
  by_cases hlt:k<n
  ·obtain⟨b,off,y,rfl,hb,hy,d0⟩:=(H1.out.here HB.out).st hlt
   obtain⟨b2,off2,z,rfl,hb2,hz,e0⟩:=(H2.out.here HB.out).st hlt
   have hyz:z=y:=by rw[hy] at hz;injection hz with hz;exact hz.symm
   subst hyz;clear hy hz hb hb2;have i1:(0:Int)<=(k:Int):=by omega
   have i2:(k:Int)<(n:Int):=by omega
   go_upto_region 6 with (fail)
   go_region_held3 (fun X=>X.cell? ⟨b,off+k,none⟩=some (.string ⟨z.toArray⟩)/\X.cell? ⟨b2,off2+k,none⟩=some (.string ⟨z.toArray⟩)) (go_keep) (fail)
   all_goals
    go_wp2_with fail
    exact⟨⟨k+1,by omega,by simp,HB.out.drew⟩,by simp[intOf];omega⟩
  ·obtain rfl:k=n:=by omega
   go_wp2_with fail
   first|go_ret|skip
   exact⟨rfl,HB.out⟩
theorem ZdB(A:Option Addr)(n c:Nat)(ls:List Lot)(f:Fct)(v:FaV)(w:World)(hp:Env w)(hcap:n<=c)(hs:YI w w.1.size A n ls)(hn:n<=maxLen)(hi:∀y∈ls,Lot.I y)(hm:FaM w w.1.size f v)(hpn:v.pn<=maxLen)(hon:v.on<=maxLen)(hx:f.Max):
 Calls Tryz.prog 3 #[.slice A n c,.agg (Qk f v)] w fun e w'=>e=.returned (.bool true)/\Below w.1.size w w':=by
 have hml:maxLen<=9223372036854775807:=by decide
 have H:=jq ((Kp.start hp).new w.1.size rfl (Qk f v) 30);have hl0:=QD (H.out.at_ 0 rfl) (QJ f v)
 have HLG:=jq (fun W (hb:Below w.1.size w W)=>ZeG A n c ls f v W (hp.here hb) (hs.here hb) (by omega) (hm.here hb) (by omega) (by omega) (by
  intro x hx';simp only[List.mem_cons,List.mem_nil_iff,or_false] at hx'
  rcases hx' with rfl|rfl|rfl
  ·exact hx.ratio
  ·exact hx.share
  ·exact hx.price))
 have HAW:=jq (fun W (hp:Env W)=>ZiN W hp.pow)
 have HSZ:=jq (show Zeo ls=false->f.Gs->(∀p∈f.picks,p.Sz 30)->(∀o∈f.options,o.Sz 24)->n<=1002/\(∀x∈ls,x.Sz 50000)/\(∀x∈ls,x.q.length<=13)/\(∀x∈ls,x.c.length<=13)/\f.Sz 1000 from fun hg h1 h2 h3=>by
  obtain⟨a1,a2,a3⟩:=Zow hi hg
  exact⟨by rw[hs.1];exact a1,a2,fun x hx=>((ZhX hg hi).2 x hx).2.1,a3,h1.sz0 hx h2 h3⟩)
 have HEN:=jq (fun(h1:n<=1002) (h2:∀x∈ls,x.Sz 50000) (h3:∀x∈ls,x.q.length<=13) (h5:f.Sz 1000) (h6:f.ratio.Sz 13) (h7:v.pn<=66) (h8:v.on<=10) (W:World) (hb:Below w.1.size w W)=>
  Ze9 A n c ls f v W (hp.here hb) (hs.here hb) h2 h3 h1 h5 h6 (hm.here hb) (by omega) (by omega))
 have HEY:=jq (fun(h1:n<=1002) (h2:∀x∈ls,x.Sz 50000) (h3:∀x∈ls,x.q.length<=13) (h5:f.Sz 1000) (h6:f.ratio.Sz 13) (h7:v.pn<=66) (h8:v.on<=10) (W:World) (hb:Below w.1.size w W)=>
  Zdz A n c ls f v W (hp.here hb) (hs.here hb) h2 h3 h1 hcap h5 h6 (hm.here hb) (by omega) (by omega))
 have HCS:=jq (fun(h1:n<=1002) (h2:∀x∈ls,x.Sz 50000) (h3:∀x∈ls,x.c.length<=13) (h5:f.Sz 1000) (h6:f.share.Sz 13) (h7:v.pn<=66) (h8:v.on<=10) (W:World) (hb:Below w.1.size w W)=>
  ZjM A n c ls f v W (hp.here hb) (hs.here hb) h2 h3 h1 h5 h6 (hm.here hb) (by omega) (by omega))
 have HCY:=jq (fun(h1:n<=1002) (h2:∀x∈ls,x.Sz 50000) (h3:∀x∈ls,x.c.length<=13) (h5:f.Sz 1000) (h6:f.share.Sz 13) (h7:v.pn<=66) (h8:v.on<=10) (W:World) (hb:Below w.1.size w W)=>
  ZhL A n c ls f v W (hp.here hb) (hs.here hb) h2 h3 h1 hcap h5 h6 (hm.here hb) (by omega) (by omega))
 have HLN:=jq (show n<=1002->(XR ls f).1.length<=1002 from fun h=>by
  have h1:(Qf ls f.inst).length<=1002:=Nat.le_trans (List.length_filter_le _ _) (by rw[<-hs.1];exact h);unfold XR
  split
  ·simp
  ·split
   ·rw[List.length_map];exact h1
   ·rw[XX,List.length_map];exact h1)
 have HZ:=jq (QJ f v);generalize Qk f v=fb at*;clear hp hs hn hi hm hpn hon hx hml hcap;go_enter Tryz.func3,Tryz.ntmps3
 go_wp2_with fail
 refine(HLG.out _ H.out.bl).mono ?_;rintro e w1 ⟨⟨b,rfl,hP⟩,hb1⟩;have HP:=jq hP;have H1:=jq (H.out.here hb1);clear hP hb1 hl0 H HLG
 cases b with
 |true=>
  go_wp2_with fail
  refine(HAW.out _ H1.out.pw).mono ?_;rintro e w2 ⟨rfl,hb2⟩;go_wp2_with fail
  first|go_ret|skip
  exact⟨rfl,(H1.out.here hb2).bl⟩
 |false=>
 obtain⟨g1,g2,g3,g4,g5,g6⟩:=HP.out rfl
 obtain⟨z1,z2,z3,z4,z5⟩:=HSZ.out g1 g2 g5 g6
 have HE1:=jq (HEN.out z1 z2 z3 z5 g2.ratio g3 g4);have HE2:=jq (HEY.out z1 z2 z3 z5 g2.ratio g3 g4);have HC1:=jq (HCS.out z1 z2 z4 z5 g2.share g3 g4);have HC2:=jq (HCY.out z1 z2 z4 z5 g2.share g3 g4);have HLL:=jq (HLN.out z1);clear g1 g2 g3 g4 g5 g6 z1 z2 z3 z4 z5 HP HSZ HEN HEY HCS HCY HLN;unfold Jy at HE1 HE2;unfold VA at HC1 HC2;generalize Zab ls f=ep at*;generalize XR ls f=cp at*;obtain⟨ea,ef,ee⟩:=ep
 obtain⟨cl,ce⟩:=cp
 dsimp only at HE1 HE2 HC1 HC2 HLL
 unfold Qq S at HE1 HE2;have hl1:=QD (H1.out.at_ 0 rfl) HZ.out;go_wp2_with fail
 refine(HE1.out _ H1.out.bl).mono ?_;rintro e w2 ⟨rfl,hb2⟩;have H2:=jq ((H1.out.here hb2).new w2.1.size rfl #[.string ⟨ef.n.toArray⟩,.string ⟨ef.d.toArray⟩] 26);clear hl1 hb2 H1 HE1;have hl2:=QD (H2.out.at_ 1 rfl) HZ.out;go_wp2_with fail
 generalize hq2:w2.alloc (.cells #[.string ⟨ef.n.toArray⟩,.string ⟨ef.d.toArray⟩] 26)=W2 at*;clear hq2;generalize w2.1.size=p2 at*;refine(HE2.out _ H2.out.bl).mono ?_;rintro e w3 ⟨rfl,hb3⟩;have H3:=jq ((H2.out.here hb3).new w3.1.size rfl #[.string ⟨ef.n.toArray⟩,.string ⟨ef.d.toArray⟩] 26);clear hl2 hb3 H2 HE2;have hl3:=QD (H3.out.at_ 2 rfl) HZ.out;go_wp2_with fail
 generalize hq3:w3.alloc (.cells #[.string ⟨ef.n.toArray⟩,.string ⟨ef.d.toArray⟩] 26)=W3 at*;clear hq3;generalize w3.1.size=p3 at*;refine(HC1.out _ H3.out.bl).mono ?_;rintro e w4 ⟨A4,c4,rfl,hS4,_,hb4⟩;have H4:=jq (H3.out.here hb4);have HS4:=jq hS4;clear hl3 hb4 H3 HC1 hS4;have hl4:=QD (H4.out.at_ 2 rfl) HZ.out;go_wp2_with fail
 refine(HC2.out _ H4.out.bl).mono ?_;rintro e w5 ⟨A5,c5,rfl,hS5,_,hb5⟩;have H5:=jq (H4.out.here hb5);have HEQ:=jq (ZgC A4 A5 cl.length c4 c5 (cl.map Qa) w5 (HS4.out.here hb5) hS5 (by have:=HLL.out;omega));clear hl4 hb5 H4 HC2 hS5 HS4;have x0:=H5.out.c 1 0 rfl rfl;have x1:=H5.out.c 1 1 rfl rfl;have y0:=H5.out.c 0 0 rfl rfl;have y1:=H5.out.c 0 1 rfl rfl;have hsa:(ea==ea)=true:=by simp
 have hsn:(ef.n==ef.n)=true:=by simp
 have hsd:(ef.d==ef.d)=true:=by simp
 have hse:(ee==ee)=true:=by simp
 have hsc:(ce==ce)=true:=by simp
 go_wp2_with fail
 refine HEQ.out.mono ?_;rintro e w6 ⟨rfl,hb6⟩;have H6:=jq (H5.out.here hb6);clear hb6 H5 HEQ x0 x1 y0 y1;go_wp2_with fail
 refine(HAW.out _ H6.out.pw).mono ?_;rintro e w7 ⟨rfl,hb7⟩;go_wp2_with fail
 first|go_ret|skip
 exact⟨rfl,(H6.out.here hb7).bl⟩
end
end Go.Proofs.YtkddgeclncafoaaGreatDoor
