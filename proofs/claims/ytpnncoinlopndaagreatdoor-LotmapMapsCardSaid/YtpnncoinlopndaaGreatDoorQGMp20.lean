/- . -/
import Derived.Test.YtpnncoinlopndaaGreatDoorQGMp45
set_option maxRecDepth 100000
set_option maxHeartbeats 16000000
namespace Go.Proofs.YtpnncoinlopndaaGreatDoor
open Go.Lib renaming hid→jq
section
open Go.RowKit Go.Shelf
attribute [local go_sem ↓] Go.wp_at_zero Go.wp_at_succ
theorem Znw:Zk7 (rmO 50) 27 23=true:=by kernel_rfl
theorem ZnS(w w2 W3:World)(ls old:List Lot)(m:Mp)(x:Plan)(N:Nat)(Ao An Am Af Ap:Option Addr)(co cn cm cf cp:Nat)(fp:Fr)(mb pb:Array Value)(A:Option Addr)(n c:Nat)(H:MQ w w2 W3 ls old m x N Ao An Am Af Ap co cn cm cf cp fp mb pb)(xs made lots:List Lot)(HML:Hid (made.length=xs.length))(HMD:Hid (made=QZ m x old))(HXL:Hid (xs.length=QD x.n N))(HFQ:Hid ((x.part=0/\fp=⟨[],[]⟩)\/(x.part≠0/\(fp.n==[])=false)))(HNIL:Hid (old≠[]->(QZ m x old=[]↔x.parts=0)))(A1 A3:Option Addr)(c1 c3:Nat)(W6 W8:World)(HR:Hid (Rs w w2.1.size W3.1.size W6.1.size N xs.length c1 A1 Ao An Am Af Ap old x made [(w2.1.size+1,#[.slice A3 lots.length c3,.slice none 0 0,.slice none 0 0,.slice none 0 0],35),(w2.1.size,pb,73),(w.1.size+1,#[.slice none 0 0,.slice none 0 0,.slice none 0 0,.slice none 0 0],35),(w.1.size,mb,28)] W8))(HL:Hid (Own L7 7 54 W8 W6.1.size (.slice A3 lots.length c3) lots))(a:Array Value)(hf:Fx w w2 A n c a)(h8:Jh a.toList 8=.slice A1 xs.length c1)(h19:Jh a.toList 19=.int .i64 0)(h20:Jh a.toList 20=.int .i64 0):
 (Code.loop (rmB 4)).wp Tryz.prog (fun e a' wr=>∃t,a'=⟨t,[]⟩/\Fx w w2 A n c t/\∃Ag cg As cs,e=.exit 8/\Hid (R5 w w2.1.size W3.1.size W8.1.size N xs.length c1 A1 Ao An Am Af Ap old x made [(w2.1.size+1,#[.slice A3 lots.length c3,.slice Ag (Xq m x old).length cg,.slice As (Yh m x old).length cs,.slice none 0 0],35),(w2.1.size,pb,73),(w.1.size+1,#[.slice none 0 0,.slice none 0 0,.slice none 0 0,.slice none 0 0],35),(w.1.size,mb,28)] (.slice A3 lots.length c3) lots (.slice Ag (Xq m x old).length cg) (Xq m x old) (.slice As (Yh m x old).length cs) (Yh m x old) wr)) ⟨a,[]⟩ W8:=by
 have HQ5:=jq H;have HS2:=jq H.hs2;have HMC:=jq H.hc;have HNN:=jq H.hn;have HMR:=jq (fun V (h:Below W3.1.size W3 V)=>H.hm.step (h.mono (by have:=H.hs2;omega)));have EM0:=jq H.e0;have EM10:=jq H.e10;have EP0:=jq H.p0;have EP1:=jq H.p1;have EP2:=jq H.p2;have EP3:=jq H.p3;have hN1:N<=1000:=by have:=HMC.out.old1000;have:=HNN.out;omega
 clear H;have hxl:xs.length<=1000:=by have:=HXL.out;have:=JM x.n N;omega
 have hg0:Vo m x old 0=[]:=by unfold Vo QT;split<;>rfl
 have hs0:QW m x old 0=[]:=rfl
 have HI:=jq (show R5 w w2.1.size W3.1.size W8.1.size N xs.length c1 A1 Ao An Am Af Ap old x made [(w2.1.size+1,#[.slice A3 lots.length c3,.slice none (Vo m x old 0).length 0,.slice none (QW m x old 0).length 0,.slice none 0 0],35),(w2.1.size,pb,73),(w.1.size+1,#[.slice none 0 0,.slice none 0 0,.slice none 0 0,.slice none 0 0],35),(w.1.size,mb,28)] (.slice A3 lots.length c3) lots (.slice none (Vo m x old 0).length 0) (Vo m x old 0) (.slice none (QW m x old 0).length 0) (QW m x old 0) W8 from by
  rw[hg0,hs0]
  exact⟨HR.out.up,HL.out.base_ HR.out.wb,fun g hg=>by
   obtain⟨A',c',_,_,_,_,h4⟩:=HL.out.form
   exact(h4 g hg).2.2,Own.nil,Own.nil⟩)
 clear hg0 hs0;clear HR HL;have c0:=HI.out.r.k.c 1 0 rfl EP0.out
 have HPT:=jq (show 0<N->((xs=[]/\x.parts=0)\/(xs≠[]/\x.parts≠0)) from fun h=>by
  have hne:old≠[]:=by intro e;rw[HNN.out,e] at h;exact absurd h (Nat.lt_irrefl 0)
  have hnil:=HNIL.out hne;rw[<-HMD.out] at hnil
  by_cases hx:xs=[]
  ·exact .inl ⟨hx,hnil.1 (List.length_eq_zero_iff.1 (by rw[HML.out,hx];rfl))⟩
  ·exact .inr ⟨hx,fun e=>hx (List.length_eq_zero_iff.1 (by rw[<-HML.out,hnil.2 e];rfl))⟩)
 have HID:=jq (show ∀j z,made[j]?=some z->z.id=QO m.cause (j+1) from fun j z hz=>by
  have h:=Zeu m x old HMC.out.lens.1;rw[<-HMD.out] at h;have h2:(made.map (·.id))[j]?=some z.id:=by rw[List.getElem?_map,hz];rfl
  rw[h,List.getElem?_map,Option.map_eq_some_iff] at h2;obtain⟨a,ha,e⟩:=h2
  obtain⟨_,h3⟩:=List.getElem?_eq_some_iff.1 ha
  rw[List.getElem_range] at h3;rw[<-e,<-h3])
 have HCX:=jq (fun k (hk:k<N)=>Jw x.n k (by rw[HMC.out.lens.1,<-HNN.out];exact hk));have HCL:=jq (fun k (hk:k<N) (hn:x.n.getD k 0≠0)=>Zmc HMC.out.lens.1 HXL.out HNN.out hk hn);rw[VJ a hf.len];unfold ZcO;rw[hf.s0,hf.s3,hf.s4,hf.s6,hf.s7,h8,h19,h20];clear hf h8 h19 h20;generalize Jh a.toList=fr;refine ZbP fun Q HX HY=> ?_
 conv=>arg 2;arg 1;whnf
 go_loopw [19,20,21,22,23] (fun nx i _ _ _ wr=>∃(k:Nat) (Ag:Option Addr) (cg:Nat) (As:Option Addr) (cs:Nat),k<=N/\i=.int .i64 k/\nx=.int .i64 (QD x.n k:Nat)/\Hid (R5 w w2.1.size W3.1.size W8.1.size N xs.length c1 A1 Ao An Am Af Ap old x made [(w2.1.size+1,#[.slice A3 lots.length c3,.slice Ag (Vo m x old k).length cg,.slice As (QW m x old k).length cs,.slice none 0 0],35),(w2.1.size,pb,73),(w.1.size+1,#[.slice none 0 0,.slice none 0 0,.slice none 0 0,.slice none 0 0],35),(w.1.size,mb,28)] (.slice A3 lots.length c3) lots (.slice Ag (Vo m x old k).length cg) (Vo m x old k) (.slice As (QW m x old k).length cs) (QW m x old k) wr)) (fun _ i _ _ _ _=>N-(intOf i).toNat)
 case atStart=>exact⟨0,none,0,none,0,Nat.zero_le _,rfl,rfl,HI⟩
 case round=>
  clear c0 HI;obtain⟨k,Ag,cg,As,cs,hk,rfl,rfl,HI⟩:=hrel
  by_cases hlt:k<N
  ·obtain⟨bo,oo,y,hAo,hy,HCo⟩:=Ziv HI.out.r.m.o hlt
   obtain⟨bn,on,hAn,HCn⟩:=VV HI.out.r.m.n hlt
   obtain⟨bm,om,hAm,HCm⟩:=VV HI.out.r.m.m hlt
   obtain⟨bf,oof,hAf,HCf⟩:=VV HI.out.r.m.f hlt
   obtain⟨bp,op,hAp,HCp⟩:=VV HI.out.r.m.p hlt
   have HC:=jq (fun V (hM:Mr w2.1.size N Ao An Am Af Ap old x V) (hk:BlkB V w2.1.size pb 73) (hm:BlkB V w.1.size mb 28)=>(show V.cell? ⟨w.1.size,0,none⟩=some (.string ⟨m.cause.toArray⟩)/\V.cell? ⟨w2.1.size,1,none⟩=some (.slice (some ⟨bn,on,none⟩) N cn)/\V.cell? ⟨w2.1.size,2,none⟩=some (.slice (some ⟨bm,om,none⟩) N cm)/\V.cell? ⟨w2.1.size,3,none⟩=some (.slice (some ⟨bf,oof,none⟩) N cf)/\V.cell? ⟨bn,on+k,none⟩=some (.string ⟨(Qa (x.n.getD k 0)).toArray⟩)/\V.cell? ⟨bm,om+k,none⟩=some (.string ⟨(Qa (x.m.getD k 0)).toArray⟩)/\V.cell? ⟨bf,oof+k,none⟩=some (.string ⟨(Qa (x.f.getD k 0)).toArray⟩) from
    ⟨hm.cell 0 EM0.out,by rw[<-hAn];exact hk.cell 1 EP1.out,by rw[<-hAm];exact hk.cell 2 EP2.out,by rw[<-hAf];exact hk.cell 3 EP3.out,HCn V hM.n,HCm V hM.m,HCf V hM.f⟩))
   have c0:wr.cell? ⟨w2.1.size,0,none⟩=some (.slice (some ⟨bo,oo,none⟩) N co):=by rw[<-hAo];exact HI.out.r.k.c 1 0 rfl EP0.out
   obtain⟨d0,d1,d2,d3,d4,d5,d6⟩:=HCo wr HI.out.r.m.o
   have e10:=HI.out.r.k.c 3 10 rfl EM10.out;obtain⟨gone,hgo⟩:∃g:List UInt8,g=if m.keep=true then[] else y.q:=⟨_,rfl⟩
   obtain⟨T1,hT1⟩:∃l,l=if x.parts=0 then[] else Ye {cause:=m.cause,src:=y.id,dst:=QO m.cause (if x.n.getD k 0=0 then 1 else QD x.n k+1),q:=gone,made:=Qa (x.n.getD k 0),cost:=Qa (x.mv k)}:=⟨_,rfl⟩
   obtain⟨g2,hg2⟩:∃l,l=if x.parts=0 then gone else[]:=⟨_,rfl⟩
   have HS2:=jq (show QW m x old (k+1)=(QW m x old k++T1)++Ye {cause:=m.cause,src:=y.id,dst:=[],q:=g2,made:=[],cost:=Qa (x.f.getD k 0)} by
    rw[ZdG hy,List.append_assoc]
    congr 1
    unfold Zbz;rw[hT1,hg2,hgo]
    by_cases hp:x.parts=0
    ·simp only[if_pos hp,List.nil_append]
    ·simp only[if_neg hp])
   have HT1:=jq hT1;have HG2:=jq hg2;have HGO:=jq hgo;have i1:(0:Int)<=(k:Int):=by omega
   have i2:(k:Int)<(N:Int):=by omega
   have HSB:=jq (HMC.out.sub k);have HX1:=jq (HCX.out k hlt);have HX2:=jq (HCL.out k hlt);have HPT1:=HPT.out (by omega);have HPP:=jq HPT1;have hpl:w.1.size<wr.1.size:=HI.out.r.k.lt 3 rfl;have hpn:w.1.size≠wr.1.size:=by omega
   have HBY:=jq ((Below.refl wr.1.size wr).alloc (Nat.le_refl _) (.cells #[.string ⟨y.id.toArray⟩,.string ⟨y.inst.toArray⟩,.int .i64 y.acq,.int .i64 y.opn,.string ⟨y.q.toArray⟩,.string ⟨y.c.toArray⟩,.string ⟨y.u.toArray⟩] 54));have HYB:=jq (show BlkB (wr.alloc (.cells #[.string ⟨y.id.toArray⟩,.string ⟨y.inst.toArray⟩,.int .i64 y.acq,.int .i64 y.opn,.string ⟨y.q.toArray⟩,.string ⟨y.c.toArray⟩,.string ⟨y.u.toArray⟩] 54)) wr.1.size #[.string ⟨y.id.toArray⟩,.string ⟨y.inst.toArray⟩,.int .i64 y.acq,.int .i64 y.opn,.string ⟨y.q.toArray⟩,.string ⟨y.c.toArray⟩,.string ⟨y.u.toArray⟩] 54 from heap_alloc_new wr _);have HIY:=jq (HI.out.alloc (.cells #[.string ⟨y.id.toArray⟩,.string ⟨y.inst.toArray⟩,.int .i64 y.acq,.int .i64 y.opn,.string ⟨y.q.toArray⟩,.string ⟨y.c.toArray⟩,.string ⟨y.u.toArray⟩] 54));have HSL:=jq (show(QW m x old k).length<=2000 from Nat.le_trans (ZeG m x old k) (by omega));have HGL:=jq (show(Vo m x old k).length<=1000 from Nat.le_trans (Zk2 m x old k) (by omega));have HYK:=jq hy;clear hAo hy HCo hAn HCn hAm HCm hAf HCf hAp HCp hgo hT1 hg2 HPT1;unfold Qh at HSB
   try unfold S at HSB
   go_upto_if 196 with (fail)
   clear d0 d1 d2 d3 d4 d5 d6 c0;generalize wr.alloc _=Wy at*
   go_cut [22] from 181 to 304 (fun g wc=>g=.string ⟨gone.toArray⟩/\wc=Wy)
   case first=>
    cases hkp:m.keep with
    |false=>
     obtain rfl:gone=y.q:=by rw[HGO.out,hkp];rfl
     go_wp2_with fail
     go_meet
     exact⟨rfl,rfl⟩
    |true=>
     obtain rfl:gone=[]:=by rw[HGO.out,hkp];rfl
     go_wp2_with fail
     go_meet
     exact⟨rfl,rfl⟩
   case rest=>
   obtain⟨rfl,rfl⟩:=hcut
   clear e10 hpn;obtain⟨Wz,rfl⟩:∃W,W=wc:=⟨_,rfl⟩
   generalize QW m x old k=tk at*;go_upto_if 199 with (fail)
   go_cut [19,22,23] from 181 to 304 (fun nx gn _ wc=>nx=.int .i64 (QD x.n (k+1):Nat)/\gn=.string ⟨g2.toArray⟩/\∃As2 cs2,Hid (R5 w w2.1.size W3.1.size W8.1.size N xs.length c1 A1 Ao An Am Af Ap old x made [(w2.1.size+1,#[.slice A3 lots.length c3,.slice Ag (Vo m x old k).length cg,.slice As2 (tk++T1).length cs2,.slice none 0 0],35),(w2.1.size,pb,73),(w.1.size+1,#[.slice none 0 0,.slice none 0 0,.slice none 0 0,.slice none 0 0],35),(w.1.size,mb,28)] (.slice A3 lots.length c3) lots (.slice Ag (Vo m x old k).length cg) (Vo m x old k) (.slice As2 (tk++T1).length cs2) (tk++T1) wc)/\Hid (BlkB wc wr.1.size #[.string ⟨y.id.toArray⟩,.string ⟨y.inst.toArray⟩,.int .i64 y.acq,.int .i64 y.opn,.string ⟨y.q.toArray⟩,.string ⟨y.c.toArray⟩,.string ⟨y.u.toArray⟩] 54))
   case first=>
    rcases HPP.out with ⟨hx,hp⟩|⟨hx,hp⟩
    ·have hn0:x.n.getD k 0=0:=by
      by_cases h:x.n.getD k 0=0
      ·exact h
      ·have:=HX2.out h
       rw[hx] at this;exact absurd this (Nat.not_lt_zero _)
     have HX3:=jq (show QD x.n (k+1)=QD x.n k by rw[HX1.out,if_pos hn0,Nat.add_zero]);have HTE:=jq (show tk++T1=tk by rw[HT1.out,if_pos hp,List.append_nil]);have HGE:=jq (show g2=gone by rw[HG2.out,if_pos hp]);subst hx;clear hp hn0;go_wp2_with fail
     go_meet
     exact⟨by rw[HX3.out],by rw[HGE.out],As,cs,(show R5 _ _ _ _ _ _ _ _ _ _ _ _ _ _ _ _ _ _ _ _ _ _ _ _ by rw[HTE.out];exact HIY.out),HYB⟩
    ·have hpos:0<xs.length:=List.length_pos_iff.2 hx;have HTE:=jq (HT1.out.trans (if_neg hp));have HGE:=jq (HG2.out.trans (if_neg hp));obtain⟨dst,hds⟩:∃d,d=QO m.cause (if x.n.getD k 0=0 then 1 else QD x.n k+1):=⟨_,rfl⟩
     rw[<-hds] at HTE;have HDS:=jq hds;obtain⟨g,o,z0,e0,_,hz0,a0,_⟩:=(HIY.out.r.d.sl Ql).lot7 hpos
     have HA1:=jq e0
     have ho:o=0:=by
      rcases HIY.out.r.d.facts.2.2.2 with ⟨h,_⟩|⟨g',h,_⟩
      ·rw[e0] at h;cases h
      ·rw[e0] at h;injection h with h;injection h
     subst ho
     have a1:Wz.cell? ⟨g,0,none⟩=some (.string ⟨(QO m.cause 1).toArray⟩):=by
      rw[HID.out 0 z0 hz0] at a0;simpa using a0
     have ipos:(0:Int)<(xs.length:Int):=by omega
     have HA2:=jq (fun(hn0:x.n.getD k 0≠0)=>(show Wz.cell? ⟨g,QD x.n k*7,none⟩=some (.string ⟨(QO m.cause (QD x.n k+1)).toArray⟩) by
      obtain⟨g',o',z1,e1,_,hz1,a2,_⟩:=(HIY.out.r.d.sl Ql).lot7 (HX2.out hn0)
      rw[e0] at e1;injection e1 with e1;injection e1 with e2 e3;subst e2;subst e3
      rw[HID.out _ z1 hz1] at a2;simpa using a2))
     clear hx hp hds hz0 a0;subst e0;obtain⟨c_0,c_1,c_2,c_3,c_4,c_5,c_6⟩:=HC.out Wz HIY.out.r.m (HIY.out.r.k.at_ 1 rfl) (HIY.out.r.k.at_ 3 rfl)
     have hcs:(x.n.getD k 0=0/\(Qa (x.n.getD k 0)==[])=true/\(Qa (x.n.getD k 0)).isEmpty=true/\(Qa (x.n.getD k 0) !=[])=false)\/(x.n.getD k 0≠0/\(Qa (x.n.getD k 0)==[])=false/\(Qa (x.n.getD k 0)).isEmpty=false/\(Qa (x.n.getD k 0) !=[])=true):=by
      by_cases h:x.n.getD k 0=0
      ·have h1:(Qa (x.n.getD k 0)==[])=true:=by rw[XB];exact decide_eq_true h
       exact .inl ⟨h,h1,by rw[XQ];exact h1,by rw[bne,h1];rfl⟩
      ·have h1:(Qa (x.n.getD k 0)==[])=false:=by rw[XB];exact decide_eq_false h
       exact .inr ⟨h,h1,by rw[XQ];exact h1,by rw[bne,h1];rfl⟩
     obtain⟨tn,htn⟩:∃t,t=Qa (x.n.getD k 0):=⟨_,rfl⟩
     rw[<-htn] at HTE HC c_4 hcs;clear htn;obtain⟨bt,hbt⟩:∃b:Bool,b=decide (x.n.getD k 0≠0):=⟨_,rfl⟩
     have HBT:=jq hbt;clear hbt;go_upto_region 47 with (fail)
     any_goals (first|(refine absurd hpos ?_;assumption)|skip)
     go_cut [209] from 181 to 304 (fun b wc=>b=.bool bt/\wc=Wz)
     case first=>
      rcases hcs with ⟨hn0,h1,h2,h3⟩|⟨hn0,h1,h2,h3⟩
      ·obtain rfl:bt=false:=by rw[HBT.out];exact decide_eq_false (fun h=>h hn0)
       clear hn0;go_wp2_with fail
       go_meet
       exact⟨rfl,rfl⟩
      ·obtain rfl:bt=true:=by rw[HBT.out];exact decide_eq_true hn0
       clear hn0;go_wp2_with fail
       go_meet
       exact⟨rfl,rfl⟩
     case rest=>
     obtain⟨rfl,rfl⟩:=hcut
     obtain⟨Wz,rfl⟩:∃W,W=wc:=⟨_,rfl⟩
     go_upto_if 209 with (fail)
     go_cut [19,23] from 181 to 304 (fun nx tv wc=>nx=.int .i64 (QD x.n (k+1):Nat)/\tv=.string ⟨dst.toArray⟩/\wc=Wz)
     case first=>
      by_cases hn0:x.n.getD k 0=0
      ·obtain rfl:bt=false:=by rw[HBT.out];exact decide_eq_false (fun h=>h hn0)
       have HX3:=jq (show QD x.n (k+1)=QD x.n k by rw[HX1.out,if_pos hn0,Nat.add_zero]);have HD2:=jq (show dst=QO m.cause 1 by rw[HDS.out,if_pos hn0]);clear hn0;go_wp2_with fail
       go_meet
       exact⟨by rw[HX3.out],by rw[HD2.out],rfl⟩
      ·obtain rfl:bt=true:=by rw[HBT.out];exact decide_eq_true hn0
       have HX3:=jq (show QD x.n (k+1)=QD x.n k+1 by rw[HX1.out,if_neg hn0]);have HD2:=jq (show dst=QO m.cause (QD x.n k+1) by rw[HDS.out,if_neg hn0]);have a2:=HA2.out hn0;have ha:QD x.n k<xs.length:=HX2.out hn0;clear hn0;generalize QO m.cause (QD x.n k+1)=nid at*;generalize QD x.n k=ck at*;have j1:(0:Int)<=(ck:Int):=by omega
       have j2:(ck:Int)<(xs.length:Int):=by omega
       go_wp2_with fail
       go_meet
       exact⟨by rw[HX3.out];go_num,by rw[HD2.out],rfl⟩
     case rest=>
     obtain⟨rfl,rfl,rfl⟩:=hcut
     obtain⟨Wz,rfl⟩:∃W,W=wc:=⟨_,rfl⟩
     have hq7:w2.1.size+1<Wz.1.size:=HIY.out.r.k.lt 0 rfl;have HNQ:=jq (show wr.1.size≠w2.1.size+1 by have:=HI.out.r.k.lt 0 rfl;omega);have b0:Wz.cell? ⟨wr.1.size,0,none⟩=some (.string ⟨y.id.toArray⟩):=HYB.out.cell 0 rfl;have s2:=HIY.out.r.k.c 0 2 rfl rfl;obtain⟨sp,hsp⟩:∃s:Stp,s={cause:=m.cause,src:=y.id,dst:=dst,q:=gone,made:=tn,cost:=Qa (x.mv k)}:=⟨_,rfl⟩
     rw[<-hsp] at HTE;have HSC:=jq (show Zcj sp=#[.string ⟨m.cause.toArray⟩,.string ⟨y.id.toArray⟩,.string ⟨dst.toArray⟩,.string ⟨gone.toArray⟩,.string ⟨tn.toArray⟩,.string ⟨(Qa (x.mv k)).toArray⟩] by rw[hsp];rfl);clear hsp;generalize Qa (x.mv k)=tmv at*;generalize Qa (x.m.getD k 0)=tmk at*;generalize Qa (x.f.getD k 0)=tfk at*
     have HST:=jq (fun W (h:R5 w w2.1.size W3.1.size W8.1.size N xs.length c1 (some ⟨g,0,none⟩) Ao An Am Af Ap old x made [(w2.1.size+1,#[.slice A3 lots.length c3,.slice Ag (Vo m x old k).length cg,.slice As tk.length cs,.slice none 0 0],35),(w2.1.size,pb,73),(w.1.size+1,#[.slice none 0 0,.slice none 0 0,.slice none 0 0,.slice none 0 0],35),(w.1.size,mb,28)] (.slice A3 lots.length c3) lots (.slice Ag (Vo m x old k).length cg) (Vo m x old k) (.slice As tk.length cs) tk W)=>(show Calls Tryz.prog 40 #[.slice As tk.length cs,.agg #[.string ⟨m.cause.toArray⟩,.string ⟨y.id.toArray⟩,.string ⟨dst.toArray⟩,.string ⟨gone.toArray⟩,.string ⟨tn.toArray⟩,.string ⟨tmv.toArray⟩]] W (JU sp tk W8.1.size As cs W) by
      rw[<-HSC.out];exact ZdE sp W8.1.size cs As tk W h.t (by have:=HSL.out;omega) h.r.s))
     unfold JU at HST;go_upto_region 50 with (fail)
     obtain⟨SS,hss⟩:∃S:World->Prop,S=fun X=>X.cell? ⟨w2.1.size+1,2,none⟩=some (.slice As tk.length cs)/\X.cell? ⟨w.1.size,0,none⟩=some (.string ⟨m.cause.toArray⟩)/\X.cell? ⟨wr.1.size,0,none⟩=some (.string ⟨y.id.toArray⟩)/\X.cell? ⟨w2.1.size,1,none⟩=some (.slice (some ⟨bn,on,none⟩) N cn)/\X.cell? ⟨bn,on+k,none⟩=some (.string ⟨tn.toArray⟩)/\X.cell? ⟨w2.1.size,2,none⟩=some (.slice (some ⟨bm,om,none⟩) N cm)/\X.cell? ⟨bm,om+k,none⟩=some (.string ⟨tmk.toArray⟩)/\X.cell? ⟨w2.1.size,3,none⟩=some (.slice (some ⟨bf,oof,none⟩) N cf)/\X.cell? ⟨bf,oof+k,none⟩=some (.string ⟨tfk.toArray⟩):=⟨_,rfl⟩
     have HSX:=jq hss
     have HSK:=jq (show ∀X,Mr w2.1.size N Ao An Am Af Ap old x X->BlkB X w2.1.size pb 73->BlkB X w.1.size mb 28->X.cell? ⟨w2.1.size+1,2,none⟩=some (.slice As tk.length cs)->X.cell? ⟨wr.1.size,0,none⟩=some (.string ⟨y.id.toArray⟩)->SS X from fun X h1 h2 h3 h4 h5=>by
      obtain⟨q0,q1,q2,q3,q4,q5,q6⟩:=HC.out X h1 h2 h3
      rw[hss];exact⟨h4,q0,h5,q1,q4,q2,q5,q3,q6⟩)
     clear hss;have hd0:Below Wz.1.size Wz Wz.drew:=(Below.refl _ Wz).drew;have hD0:=jq (HIY.out.below hd0);have hS0:=HSK.out Wz.drew hD0.out.r.m (hD0.out.r.k.at_ 1 rfl) (hD0.out.r.k.at_ 3 rfl) (hD0.out.r.k.c 0 2 rfl rfl) ((HYB.out.here hd0).cell 0 rfl);refine ZbR 27 SS 23 (by kernel_rfl) Znw (fun hT=> ?_)
     show Yc _ _ _ _ _ _ 28 _ _ _
     iterate 23
      refine ZbQ (v:= ?_) hT rfl (by decide) (fun _ _ _ h=>h) (by rfl) ?_ hS0 ?_
      rotate_left
      ·intro X hX;rw[HSX.out] at hX;obtain⟨s0,s1,s2,s3,s4,s5,s6,s7,s8⟩:=hX;go_simp;all_goals (with_reducible rfl)
      simp only[Act.put,List.setIfInBounds_toArray,List.set_cons_zero,List.set_cons_succ]
     refine YL (i:=23) (by kernel_rfl) rfl (fun K hK=> ?_)
     go_simp
     go_at_call 35
     refine(HSB.out _).mono ?_;rintro e v1 ⟨rfl,hb1⟩;have hg1:Below Wz.1.size Wz v1:=(Below.refl _ Wz).drew.trans hb1;have HI1:=jq (HIY.out.below hg1);have HY1:=jq (HYB.out.here hg1);clear hS0;have hS0:=HSK.out v1 HI1.out.r.m (HI1.out.r.k.at_ 1 rfl) (HI1.out.r.k.at_ 3 rfl) (HI1.out.r.k.c 0 2 rfl rfl) (HY1.out.cell 0 rfl);refine hK.out _ _ (fun _=>hS0) ?_;clear hK K
     try simp only[Act.put,List.setIfInBounds_toArray,List.set_cons_zero,List.set_cons_succ]
     refine VW (i:=24) (v:= ?v24) rfl (by kernel_rfl) (fun _ _ _ h=>h) (by rfl) ?h24 hS0 ?r24
     case h24=>intro X hX;rw[HSX.out] at hX;obtain⟨s0,s1,s2,s3,s4,s5,s6,s7,s8⟩:=hX;go_simp;all_goals (with_reducible rfl)
     simp only[Act.put,List.setIfInBounds_toArray,List.set_cons_zero,List.set_cons_succ];refine YL (i:=25) (by kernel_rfl) rfl (fun K hK=> ?_)
     go_simp
     go_at_call 40
     refine(HST.out _ HI1.out).mono ?_;rintro e v2 ⟨A4,c4,rfl,ho4,hg4⟩;have HI2:=jq (HI1.out.app6 hg4 ho4);have HY2:=jq (show BlkB v2 wr.1.size #[.string ⟨y.id.toArray⟩,.string ⟨y.inst.toArray⟩,.int .i64 y.acq,.int .i64 y.opn,.string ⟨y.q.toArray⟩,.string ⟨y.c.toArray⟩,.string ⟨y.u.toArray⟩] 54 from(hg4.block _ HY1.out.lt (fun e=>HI1.out.t.neBlk HY1.out (by decide) e.symm)).trans HY1.out);have s4:=HI2.out.r.k.c 0 2 rfl rfl;have f4:=HI2.out.r.k.f 0 2 rfl;have hS1:=HSK.out v2 HI2.out.r.m (HI2.out.r.k.at_ 1 rfl) (HI2.out.r.k.at_ 3 rfl) s4 (HY2.out.cell 0 rfl);refine hK.out _ _ (fun _=>hS1) ?_;clear hK K hS0
     try simp only[Act.put,List.setIfInBounds_toArray,List.set_cons_zero,List.set_cons_succ]
     refine VW (i:=26) (v:= ?v26) rfl (by kernel_rfl) (fun _ _ _ h=>h) (by rfl) ?h26 hS1 ?r26
     case h26=>intro X hX;rw[HSX.out] at hX;obtain⟨s0,s1,s2,s3,s4,s5,s6,s7,s8⟩:=hX;go_simp;all_goals (with_reducible rfl)
     simp only[Act.put,List.setIfInBounds_toArray,List.set_cons_zero,List.set_cons_succ];refine YL (i:=27) (by kernel_rfl) rfl (fun K hK=> ?_)
     go_simp
     refine hK.out _ _ (fun h=>absurd rfl h) ?_;clear hK K
     try simp only[Act.put,List.setIfInBounds_toArray,List.set_cons_zero,List.set_cons_succ]
     refine ZcD (by kernel_rfl) ?_ _;go_wp2_with fail
     go_meet
     exact⟨rfl,by rw[HGE.out],A4,c4,(show R5 _ _ _ _ _ _ _ _ _ _ _ _ _ _ _ _ _ _ _ _ _ _ _ _ by rw[HTE.out];have h:=HI2.out;rw[List.length_append] at h ⊢; exact h.set rfl (Nat.le_succ _) 2 _),(show BlkB _ _ _ _ from HY2.out.far HNQ.out _)⟩
   case rest=>
   obtain⟨rfl,rfl,As2,cs2,HI2,HY2⟩:=hcut
   obtain⟨Wq,rfl⟩:∃W,W=wc:=⟨_,rfl⟩
   clear HIY HYB HBY HT1 HX1 HX2 HSB HPP HG2 HGO
   have HL2:=jq (show(tk++T1).length<=2002 by
    have h:=ZeG m x old (k+1);rw[HS2.out,List.length_append] at h;omega)
   generalize tk++T1=tk2 at*;clear HSL;have HNQ:=jq (show wr.1.size≠w2.1.size+1 by have:=HI.out.r.k.lt 0 rfl;omega);refine(show ∀a w,Code.wp _ _ _ a w->_ from by assumption) _ _ ?_;refine wp_mono (ZnG w w2 W3 ls old m x N Ao An Am Af Ap co cn cm cf cp fp mb pb A n c HQ5.out xs made lots HFQ A1 A3 c1 c3 W8 wr Wq k hlt hN1 y HYK.out g2 tk2 Ag As2 cg cs2 HS2 HNQ HGL HI2 HY2) ?_;intro e a' wc h
   iterate 61 (obtain⟨_,h⟩:=h)
   obtain⟨⟨Ag4,cg4,As4,cs4,HI4⟩,rfl,rfl⟩:=h
   go_wp2_with fail
   go_roundw
   case rel=>exact⟨k+1,Ag4,cg4,As4,cs4,by omega,by go_num,rfl,HI4⟩
   case measure=>simp[intOf];omega
  ·obtain rfl:N=k:=by omega
   have HGE:=jq (show Vo m x old N=Xq m x old by rw[HNN.out];rfl);have HSE:=jq (show QW m x old N=Yh m x old by rw[HNN.out];rfl);rw[HGE.out,HSE.out] at HI;have c0:=HI.out.r.k.c 1 0 rfl EP0.out;go_wp2_with fail
   exact HX.out _ _ _ ⟨_,rfl,⟨rfl,rfl,rfl,rfl,rfl,rfl⟩,Ag,cg,As,cs,rfl,HI⟩
end
end Go.Proofs.YtpnncoinlopndaaGreatDoor
