/- Fa2, Fa4. -/
import Derived.Test.YtokjnjdbnabchaaGreatDoorQGEp9
import Derived.Test.YtokjnjdbnabchaaGreatDoorQGEp17
import Derived.Test.YtokjnjdbnabchaaGreatDoorQGEp25
set_option maxRecDepth 100000
set_option maxHeartbeats 8000000
namespace Go.Proofs.YtokjnjdbnabchaaGreatDoor
open Go.Lib renaming hid→jq
open Go.RowKit Go.Shelf
section
attribute [local go_sem] Oper.semAt_some
attribute [local go_sem ↓] Go.wp_at_zero Go.wp_at_succ
theorem Zdp(x p:Pk)(b:Nat)(w:World)(hb:BlkB w b #[.string ⟨p.lot.toArray⟩,.string ⟨p.q.toArray⟩] 160):
 Calls Tryz.prog 271 #[PkV x,.pointer (some ⟨b,0,none⟩)] w fun e w'=>e=.returned (.bool (x.lot==p.lot))/\Below w.1.size w w':=by
 have hbA:Below w.1.size w (w.alloc (.cells #[.string ⟨x.lot.toArray⟩,.string ⟨x.q.toArray⟩] 160)):=(Below.refl _ _).alloc (Nat.le_refl _) _;have hn:BlkB (w.alloc (.cells #[.string ⟨x.lot.toArray⟩,.string ⟨x.q.toArray⟩] 160)) w.1.size #[.string ⟨x.lot.toArray⟩,.string ⟨x.q.toArray⟩] 160:=heap_alloc_new w _;have x0:=hn.cell 0 rfl;have y0:=(hb.here hbA).cell 0 rfl;have HBA:=jq hbA;clear hbA hn hb;unfold PkV S;go_enter Tryz.func271,Tryz.ntmps271
 go_wp2_with fail
 first|go_ret|skip
 exact⟨rfl,HBA.out⟩
theorem ZdZ(p q:Bool)(w:World):Calls Tryz.prog 202 #[.bool p,.bool q] w fun e w'=>∃b1 b2,e=.returned (.func (.func 267) #[] #[.pointer (some ⟨b1,0,none⟩),.pointer (some ⟨b2,0,none⟩)])/\Box w' b1 4 (.bool p)/\Box w' b2 4 (.bool q)/\Below w.1.size w w':=by
 refine(XT p q w).mono ?_;rintro e w' ⟨rfl,rfl⟩;exact⟨_,_,rfl,(Box.new w 4 (.bool p)).alloc _,by have:=Box.new (w.alloc (.cells #[.bool p] 4)) 4 (.bool q);rwa [World.size_alloc] at this,((Below.refl _ _).alloc (Nat.le_refl _) _).alloc (by simp) _⟩
theorem Zdq(p:Pk)(ps pre:List Pk)(sum:Int):XR (p::ps) pre sum=if idB p.lot=false then(23,sum) else if pre.any (fun x=>x.lot==p.lot) then(5,sum)
 else if QT true false ⟨p.q,[]⟩≠0 then(QT true false ⟨p.q,[]⟩,sum) else XR ps (pre++[p]) (sum+val p.q):=rfl
theorem Zah(f:Fct)(v:FaV)(w:World)(hp:Env w)(hf:f.Sz 1000)(hm:FaM w w.1.size f v)(hn:v.pn<=100000):Calls Tryz.prog 208 #[.agg (Qe f v)] w fun e w'=>e=.returned (.int .i64 (VN f))/\Below w.1.size w w':=by
 have H:=jq ((Kp.start hp).new w.1.size rfl (Qe f v) 44);have hnp:=hm.pk.1;have HR:=jq (show VN f=if 64<f.picks.length then 4 else if(XR f.picks [] 0).1≠0 then(XR f.picks [] 0).1 else if val f.q<(XR f.picks [] 0).2 then 15 else 0 from rfl);rw[<-hnp] at HR;have HS:=jq hm.pk;have HZ:=jq hf;have HNP:=jq hnp;obtain⟨N,hN⟩:∃N,N=v.pn:=⟨_,rfl⟩
 rw[<-hN] at HR HS HNP hn;obtain⟨A,hA⟩:∃A,A=v.pA:=⟨_,rfl⟩
 obtain⟨C,hC⟩:∃C,C=v.pc:=⟨_,rfl⟩
 rw[<-hA] at HS;have E18:=jq (show(Qe f v)[18]?=some (.slice A N C) by rw[hA,hN,hC];rfl);have E9:=jq (show(Qe f v)[9]?=some (.string ⟨f.q.toArray⟩) from rfl);generalize VN f=res at*;have hNC:N<=C:=by rw[hN,hC];exact hm.pc
 clear hp hf hm hnp hN hA hC;generalize Qe f v=fb at*;have x18:=H.out.c 0 18 rfl E18.out
 by_cases h64:64<N
 ·rw[if_pos h64] at HR;have h64':(64:Int)<(N:Int):=by omega
  clear h64;go_enter Tryz.func208,Tryz.ntmps208
  go_wp2_with fail
  first|go_ret|skip
  exact⟨Qa HR.out.symm,H.out.bl⟩
 rw[if_neg h64] at HR;have h64':¬(64:Int)<(N:Int):=by omega
 have HN64:=jq h64;clear h64;go_enter Tryz.func208,Tryz.ntmps208
 go_wp2_with fail
 generalize w.alloc (.cells fb 44)=W0 at*;clear x18
 go_loopw [2,3,4,5,6,14] (fun r s _ _ _ i wr=>∃(k:Nat) (sum:Int),k<=N/\r=.int .i64 0/\s=.string ⟨(Qb sum).toArray⟩/\i=.int .i64 k/\Hid (Kp w [(w.1.size,fb,44)] wr)/\Hid (XR (f.picks.drop k) (f.picks.take k) sum=XR f.picks [] 0)/\Hid (sum=Zem ((f.picks.take k).map (·.q)))) (fun _ _ _ _ _ i _=>N-(intOf i).toNat)
 case atStart=>exact⟨0,0,Nat.zero_le _,rfl,rfl,rfl,H,(show _=_ by rw[List.drop_zero,List.take_zero]),(show _=_ by rw[List.take_zero];rfl)⟩
 case round=>
  clear H;obtain⟨k,sum,hk,rfl,rfl,rfl,H,HQ,HSU⟩:=hrel
  have hlen:(Qb sum).length<=1005:=by
   rw[HSU.out];exact Zfd (fun y hy=>by obtain⟨z,hz,rfl⟩:=List.mem_map.1 hy;exact(HZ.out.picks z (List.mem_of_mem_take hz)).q) (by rw[List.length_map,List.length_take];omega)
  have HLN:=jq hlen;clear hlen
  by_cases hlt:k<N
  ·obtain⟨b,off,y,rfl,hb,hx,d0,d1⟩:=(HS.out.below H.out.bl).pk hlt
   have HX:=jq hx;clear hx;have HB:=jq (H.out.new wr.1.size rfl #[.string ⟨y.lot.toArray⟩,.string ⟨y.q.toArray⟩] 160);have HYZ:=jq (HZ.out.picks y (List.mem_of_getElem? HX.out))
   have HDR:=jq (show XR f.picks [] 0=if idB y.lot=false then(23,sum) else if(f.picks.take k).any (fun x=>x.lot==y.lot) then(5,sum) else if QT true false ⟨y.q,[]⟩≠0 then(QT true false ⟨y.q,[]⟩,sum) else XR (f.picks.drop (k+1)) (f.picks.take (k+1)) (sum+val y.q) by
    have hx:=HX.out;obtain⟨hk2,e⟩:=List.getElem?_eq_some_iff.1 hx
    rw[<-HQ.out,List.drop_eq_getElem_cons hk2,e,Zdq,List.take_succ_eq_append_getElem hk2,e])
   clear HQ;have HIL:=jq (ZeF y.lot (by have:=HYZ.out.lot;omega));go_upto_region 7 with (fail)
   generalize wr.alloc _=W1 at*;clear d0 d1 H;generalize hb5:wr.1.size=b5 at*;clear hb5;have c0:W1.cell? ⟨b5,0,none⟩=some (.string ⟨y.lot.toArray⟩):=HB.out.c 0 0 rfl rfl;unfold S at HIL;generalize idB y.lot=ib at*;go_wp2_with fail
   refine(HIL.out _ HB.out.pw).mono ?_;rintro e W2 ⟨rfl,hb2⟩;replace HB:=jq (HB.out.here hb2);clear c0 hb2 HIL
   cases ib with
   |false=>
    rw[if_pos rfl] at HDR;rw[HDR.out] at HR;go_wp2_with fail
    first|go_ret|skip
    exact⟨Qa (by rw[HR.out];rfl),HB.out.bl⟩
   |true=>
    rw[if_neg (by decide)] at HDR;have HCF:=jq (Zag 271 #[.pointer (some ⟨b5,0,none⟩)] (fun z=>z.lot==y.lot) (some ⟨b,off,none⟩) k C (f.picks.take k) W2 (enters_of Tryz.func271 (by kernel_rfl) rfl) (fun W z _ hbl=>Zdp z y b5 W ((HB.out.at_ 0 rfl).here hbl)) (((HS.out.below HB.out.bl).more HB.out.bl.size).take (by omega)) (by omega));generalize (f.picks.take k).any (fun z=>z.lot==y.lot)=an at*;have x18:=HB.out.c 1 18 rfl E18.out;have hkC:(k:Int)<=(C:Int):=by omega
    have hk0:(0:Int)<=(k:Int):=by omega
    go_wp2_with fail
    refine HCF.out.mono ?_;rintro e W3 ⟨rfl,hb3⟩;replace HB:=jq (HB.out.here hb3);clear x18 hb3 HCF
    cases an with
    |true=>
     rw[if_pos rfl] at HDR;rw[HDR.out] at HR;go_wp2_with fail
     first|go_ret|skip
     exact⟨Qa (by rw[HR.out];rfl),HB.out.bl⟩
    |false=>
     rw[if_neg (by decide)] at HDR;have HBT:=jq (fun V=>ZdZ true false V);have HWH:=jq (fun V=>YW y.q V);have HLM:=jq (fun p1 p2 V hp h1 h2=>VT true false ⟨y.q,[]⟩ p1 p2 V hp ⟨HYZ.out.q,by simp⟩ h1 h2);have HAD:=jq (fun V hp=>Zbv (Qb sum) y.q V hp (by have:=HLN.out;omega) (by have:=HYZ.out.q;omega));rw[Qh] at HAD
     have HS2:=jq (show sum+val y.q=Zem ((f.picks.take (k+1)).map (·.q)) by
      obtain⟨hk2,e⟩:=List.getElem?_eq_some_iff.1 HX.out
      rw[List.take_succ_eq_append_getElem hk2,List.map_append,HSU.out,e];unfold Zem;rw[List.map_append,Zcc];simp)
     generalize hnc:QT true false ⟨y.q,[]⟩=nc at*;clear hnc;have c1:W3.cell? ⟨b5,1,none⟩=some (.string ⟨y.q.toArray⟩):=HB.out.c 0 1 rfl rfl;unfold Qj S at*
     go_upto_region 11 with (fail)
     have hS:=jq (fun V (h:Bz W3 V)=>(show V.cell? ⟨b5,1,none⟩=some (.string ⟨y.q.toArray⟩) from(HB.out.here h).c 0 1 rfl rfl))
     go_region_held3 (fun w'=>w'.cell? ⟨b5,1,none⟩=some (.string ⟨y.q.toArray⟩))
      (first
        |exact hS.out _ (by repeat' (first|assumption|exact Bz.refl _|refine Bz.drew ?_|refine Bz.alloc ?_ _|refine Bz.set ?_ (by first|assumption|exact Nat.le_refl _|exact Bz.size (by assumption)) _ _))
        |go_keep)
      (first
        |(go_at_call 202;refine(HBT.out _).mono ?_;rintro e v1 ⟨p1,p2,rfl,hx1,hx2,hb1⟩;have hz1:Bz W3 v1:=Bz.call (by repeat' (first|assumption|exact Bz.refl _|refine Bz.drew ?_|refine Bz.alloc ?_ _|refine Bz.set ?_ (by first|assumption|exact Nat.le_refl _|exact Bz.size (by assumption)) _ _)) hb1;have hy1:Below W3.1.size W3 v1:=hz1)
        |(go_at_call 272;refine(HWH.out _).mono ?_;rintro e v2 ⟨rfl,hb2⟩;have hz2:Bz W3 v2:=Bz.call (by repeat' (first|assumption|exact Bz.refl _|refine Bz.drew ?_|refine Bz.alloc ?_ _|refine Bz.set ?_ (by first|assumption|exact Nat.le_refl _|exact Bz.size (by assumption)) _ _)) hb2;have hy2:Below W3.1.size W3 v2:=hz2)
        |(go_at_call 267;(first|with_reducible refine(HLM.out p1 p2 _ (HB.out.here hy2).pw (hx1.here hb2) (hx2.here hb2)).mono ?_|with_reducible refine(HLM.out p1 p2 _ (HB.out.here hy1).pw hx1 hx2).mono ?_);rintro e v3 ⟨rfl,hb3⟩;have hz3:Bz W3 v3:=Bz.call (by repeat' (first|assumption|exact Bz.refl _|refine Bz.drew ?_|refine Bz.alloc ?_ _|refine Bz.set ?_ (by first|assumption|exact Nat.le_refl _|exact Bz.size (by assumption)) _ _)) hb3))
     all_goals
      have HB3:=jq (HB.out.here hz3);have c1':v3.cell? ⟨b5,1,none⟩=some (.string ⟨y.q.toArray⟩):=HB3.out.c 0 1 rfl rfl
      by_cases hn0:nc=0
      ·subst hn0;rw[if_neg (by simp)] at HDR;go_wp2_with fail
       refine(HAD.out _ HB3.out.po).mono ?_;rintro e W4 ⟨rfl,hb4⟩;have HB4:=jq (HB3.out.here hb4);unfold S;go_wp2_with fail
       go_roundw
       case rel=>exact⟨k+1,sum+val y.q,by omega,rfl,rfl,by go_num,HB4.out.tail,HDR.out.symm,HS2.out⟩
       case measure=>simp[intOf];omega
      ·rw[if_pos hn0] at HDR;rw[HDR.out] at HR;have hn1:(nc !=0)=true:=by simpa using hn0
       have HN0:=jq hn0;clear hn0;go_wp2_with fail
       first|go_ret|skip
       exact⟨Qa (by rw[HR.out,if_pos HN0.out]),HB3.out.bl⟩
  ·obtain rfl:k=N:=by omega
   have HQ2:=jq (show XR f.picks [] 0=(0,sum) by
    rw[<-HQ.out,List.drop_eq_nil_of_le (by rw[<-HNP.out];exact Nat.le_refl _)];rfl)
   rw[HQ2.out] at HR;rw[if_neg (by simp)] at HR;have HCM:=jq (fun W=>QM (Qb sum) f.q W (by have:=HLN.out;omega) (by have:=HZ.out.q;omega));rw[Qh] at HCM;have x9:=H.out.c 0 9 rfl E9.out;have HSG:=jq (show decide (0<QQ (sum-val f.q))=decide (val f.q<sum) by unfold QQ;(repeat' split)<;>simp<;>omega);clear HQ HQ2 HSU HLN;generalize QQ (sum-val f.q)=sg at*;unfold S at HCM
   by_cases hs:val f.q<sum
   ·rw[if_pos hs] at HR;have hd:decide (0<sg)=true:=by rw[HSG.out];simpa using hs
    have hd':0<sg:=of_decide_eq_true hd;clear hs;go_wp2_with fail
    refine(HCM.out _).mono ?_;rintro e W5 ⟨rfl,hb5⟩;go_wp2_with fail
    first|go_ret|skip
    exact⟨Qa HR.out.symm,(H.out.here hb5).bl⟩
   ·rw[if_neg hs] at HR;have hd:decide (0<sg)=false:=by rw[HSG.out];simpa using hs
    have hd':¬0<sg:=of_decide_eq_false hd;clear hs;go_wp2_with fail
    refine(HCM.out _).mono ?_;rintro e W5 ⟨rfl,hb5⟩;go_wp2_with fail
    first|go_ret|skip
    exact⟨Qa HR.out.symm,(H.out.here hb5).bl⟩
end
section
attribute [local go_sem] Oper.semAt_some
attribute [local go_sem ↓] Go.wp_at_zero Go.wp_at_succ
def VD:List Fr->Int
 |[]=>0
 |z::l=>if QT false false z≠0 then QT false false z else VD l
theorem ZeG(inst:List UInt8)(o:Opn)(os:List Opn):VO inst (o::os)=if o.other≠[]/\Qv o.other=false then 23 else if o.other=inst then 18
 else if VD [o.ratio,o.price,o.value]≠0 then VD [o.ratio,o.price,o.value]
 else if decide (o.other≠[])≠decide (o.ratio≠⟨[],[]⟩)\/(o.other=[]/\o.value≠⟨[],[]⟩) then 2 else VO inst os:=by
 rw[VO];unfold VD VD VD VD
 by_cases h1:QT false false o.ratio=0
 ·by_cases h2:QT false false o.price=0
  ·by_cases h3:QT false false o.value=0
   ·simp[h1,h2,h3]
   ·simp[h1,h2,h3]
  ·simp[h1,h2]
 ·simp[h1]
theorem ZfX(o:Opn):(decide (o.other≠[])≠decide (o.ratio≠⟨[],[]⟩)\/(o.other=[]/\o.value≠⟨[],[]⟩))↔(((!(o.other==[])) !=(!((o.ratio.n==[])&&(o.ratio.d==[]))))||((o.other==[])&& !((o.value.n==[])&&(o.value.d==[]))))=true:=by
 obtain⟨a,⟨b,c⟩,p,⟨d,e⟩⟩:=o
 cases a<;>cases b<;>cases c<;>cases d<;>cases e<;>simp
theorem VX(f:Fct)(v:FaV)(w:World)(hp:Env w)(hf:f.Sz 1000)(hm:FaM w w.1.size f v)(hn:v.on<=100000):Calls Tryz.prog 209 #[.agg (Qe f v)] w fun e w'=>e=.returned (.int .i64 (ZaO f))/\Below w.1.size w w':=by
 have H:=jq ((Kp.start hp).new w.1.size rfl (Qe f v) 44);have hnp:=hm.op.1;have HR:=jq (show ZaO f=if f.options.length=0 then 11 else if 8<f.options.length then 4 else VO f.inst f.options from rfl);rw[<-hnp] at HR;have HS:=jq hm.op;have HZ:=jq hf.options;have HNP:=jq hnp;obtain⟨N,hN⟩:∃N,N=v.on:=⟨_,rfl⟩
 rw[<-hN] at HR HS HNP hn;obtain⟨A,hA⟩:∃A,A=v.oA:=⟨_,rfl⟩
 obtain⟨C,hC⟩:∃C,C=v.oc:=⟨_,rfl⟩
 rw[<-hA] at HS;have E19:=jq (show(Qe f v)[19]?=some (.slice A N C) by rw[hA,hN,hC];rfl);have E5:=jq (show(Qe f v)[5]?=some (.string ⟨f.inst.toArray⟩) from rfl);generalize ZaO f=res at*;generalize f.inst=inst at*;clear hp hf hm hnp hN hA hC;generalize Qe f v=fb at*;have x19:=H.out.c 0 19 rfl E19.out
 by_cases h0:N=0
 ·rw[if_pos h0] at HR;have h0':((N:Int)==0)=true:=by rw[h0];rfl
  clear h0;go_enter Tryz.func209,Tryz.ntmps209
  go_wp2_with fail
  first|go_ret|skip
  exact⟨Qa HR.out.symm,H.out.bl⟩
 rw[if_neg h0] at HR;have h0':((N:Int)==0)=false:=beq_false_of_ne (by omega);clear h0
 by_cases h8:8<N
 ·rw[if_pos h8] at HR;have h8':(8:Int)<(N:Int):=by omega
  clear h8;go_enter Tryz.func209,Tryz.ntmps209
  go_wp2_with fail
  first|go_ret|skip
  exact⟨Qa HR.out.symm,H.out.bl⟩
 rw[if_neg h8] at HR;have h8':¬(8:Int)<(N:Int):=by omega
 clear h8;go_enter Tryz.func209,Tryz.ntmps209
 go_wp2_with fail
 generalize w.alloc (.cells fb 44)=W0 at*;clear x19
 go_loopw [2,4,6,7,19] (fun r _ _ _ i wr=>∃(k:Nat),k<=N/\r=.int .i64 0/\i=.int .i64 k/\Hid (Kp w [(w.1.size,fb,44)] wr)/\Hid (VO inst (f.options.drop k)=VO inst f.options)) (fun _ _ _ _ i _=>N-(intOf i).toNat)
 case atStart=>exact⟨0,Nat.zero_le _,rfl,rfl,H,(show _=_ by rw[List.drop_zero])⟩
 case round=>
  clear H;obtain⟨k,hk,rfl,rfl,H,HQ⟩:=hrel
  by_cases hlt:k<N
  ·obtain⟨b,off,y,rfl,hb,hx,d0,d1,d2,d3,d4,d5,d6⟩:=(HS.out.below H.out.bl).opt hlt
   have HX:=jq hx;clear hx;have HB:=jq (H.out.new wr.1.size rfl #[.string ⟨y.other.toArray⟩,.string ⟨y.ratio.n.toArray⟩,.string ⟨y.ratio.d.toArray⟩,.string ⟨y.price.n.toArray⟩,.string ⟨y.price.d.toArray⟩,.string ⟨y.value.n.toArray⟩,.string ⟨y.value.d.toArray⟩] 162);have HYZ:=jq (HZ.out y (List.mem_of_getElem? HX.out))
   have HDR:=jq (show VO inst f.options=if y.other≠[]/\Qv y.other=false then 23 else if y.other=inst then 18
    else if VD [y.ratio,y.price,y.value]≠0 then VD [y.ratio,y.price,y.value]
    else if decide (y.other≠[])≠decide (y.ratio≠⟨[],[]⟩)\/(y.other=[]/\y.value≠⟨[],[]⟩) then 2 else VO inst (f.options.drop (k+1)) by
    obtain⟨hk2,e⟩:=List.getElem?_eq_some_iff.1 HX.out
    rw[<-HQ.out,List.drop_eq_getElem_cons hk2,e,ZeG])
   clear HQ;have HNM:=jq (VB y.other);go_upto_region 8 with (fail)
   generalize wr.alloc _=W1 at*;clear d0 d1 d2 d3 d4 d5 d6 H;generalize hb5:wr.1.size=b5 at*;clear hb5;have c0:W1.cell? ⟨b5,0,none⟩=some (.string ⟨y.other.toArray⟩):=HB.out.c 0 0 rfl rfl;have HB1:=jq (show(y.other≠[]/\Qv y.other=false)↔(!(y.other==[])&& !Qv y.other)=true by simp);generalize hb1:(!(y.other==[])&& !Qv y.other)=q1 at*;have HQ1:=jq hb1;clear hb1;unfold S at HNM
   go_cut [19,31] from 19 to 75 (fun i19 s wc=>i19=.int .i64 k/\s=.bool q1/\Hid (Kp w [(b5,#[.string ⟨y.other.toArray⟩,.string ⟨y.ratio.n.toArray⟩,.string ⟨y.ratio.d.toArray⟩,.string ⟨y.price.n.toArray⟩,.string ⟨y.price.d.toArray⟩,.string ⟨y.value.n.toArray⟩,.string ⟨y.value.d.toArray⟩],162),(w.1.size,fb,44)] wc))
   case first=>
    cases e1:(y.other==[])
    ·have HE:=jq (show q1= !Qv y.other by rw[<-HQ1.out,e1];rfl);clear HQ1 HDR HB1;generalize Qv y.other=nb at*;go_wp2_with fail
     refine(HNM.out _ HB.out.pw).mono ?_;rintro e W2 ⟨rfl,hb2⟩;replace HB:=jq (HB.out.here hb2);clear hb2 c0;go_wp2_with fail
     go_meet
     exact⟨rfl,by rw[HE.out],HB⟩
    ·have HE:=jq (show q1=false by rw[<-HQ1.out,e1];rfl);clear HQ1 HDR HB1;go_wp2_with fail
     go_meet
     exact⟨rfl,by rw[HE.out],HB⟩
   case rest=>
   obtain⟨rfl,rfl,HB⟩:=hcut
   obtain⟨W2,rfl⟩:∃W,W=wc:=⟨_,rfl⟩
   clear c0 HQ1 HNM
   cases q1 with
   |true=>
    rw[if_pos (HB1.out.2 rfl)] at HDR;rw[HDR.out] at HR;go_wp2_with fail
    first|go_ret|skip
    exact⟨Qa HR.out.symm,HB.out.bl⟩
   |false=>
    rw[if_neg (fun h=>by have:=HB1.out.1 h;cases this)] at HDR;have c0:W2.cell? ⟨b5,0,none⟩=some (.string ⟨y.other.toArray⟩):=HB.out.c 0 0 rfl rfl;have x5:=HB.out.c 1 5 rfl E5.out
    cases hq:(y.other==inst) with
    |true=>
     rw[if_pos (by simpa using hq)] at HDR;rw[HDR.out] at HR;go_wp2_with fail
     first|go_ret|skip
     exact⟨Qa HR.out.symm,HB.out.bl⟩
    |false=>
     rw[if_neg (by simpa using hq)] at HDR;have c1:W2.cell? ⟨b5,1,none⟩=some (.string ⟨y.ratio.n.toArray⟩):=HB.out.c 0 1 rfl rfl;have c2:W2.cell? ⟨b5,2,none⟩=some (.string ⟨y.ratio.d.toArray⟩):=HB.out.c 0 2 rfl rfl;have c3:W2.cell? ⟨b5,3,none⟩=some (.string ⟨y.price.n.toArray⟩):=HB.out.c 0 3 rfl rfl;have c4:W2.cell? ⟨b5,4,none⟩=some (.string ⟨y.price.d.toArray⟩):=HB.out.c 0 4 rfl rfl;have c5:W2.cell? ⟨b5,5,none⟩=some (.string ⟨y.value.n.toArray⟩):=HB.out.c 0 5 rfl rfl;have c6:W2.cell? ⟨b5,6,none⟩=some (.string ⟨y.value.d.toArray⟩):=HB.out.c 0 6 rfl rfl;have HSL:=jq (show Frs (W2.alloc (.cells #[.string ⟨y.ratio.n.toArray⟩,.string ⟨y.ratio.d.toArray⟩,.string ⟨y.price.n.toArray⟩,.string ⟨y.price.d.toArray⟩,.string ⟨y.value.n.toArray⟩,.string ⟨y.value.d.toArray⟩] 28)) (W2.1.size+1) (some ⟨W2.1.size,0,none⟩) 3 [y.ratio,y.price,y.value] from Sl.lit W2 _ 28 [y.ratio,y.price,y.value] rfl Zfu);have HSZ:=jq (show(W2.alloc (.cells #[.string ⟨y.ratio.n.toArray⟩,.string ⟨y.ratio.d.toArray⟩,.string ⟨y.price.n.toArray⟩,.string ⟨y.price.d.toArray⟩,.string ⟨y.value.n.toArray⟩,.string ⟨y.value.d.toArray⟩] 28)).heap.size=W2.1.size+1 by simp);have HB3:=jq (HB.out.alloc (.cells #[.string ⟨y.ratio.n.toArray⟩,.string ⟨y.ratio.d.toArray⟩,.string ⟨y.price.n.toArray⟩,.string ⟨y.price.d.toArray⟩,.string ⟨y.value.n.toArray⟩,.string ⟨y.value.d.toArray⟩] 28))
     have HLZ:=jq (show ∀z∈[y.ratio,y.price,y.value],z.Sz 1000 by
      intro z hz;simp only[List.mem_cons,List.mem_nil_iff,or_false] at hz
      rcases hz with rfl|rfl|rfl
      ·exact HYZ.out.ratio
      ·exact HYZ.out.price
      ·exact HYZ.out.value)
     go_upto_region 13 with (fail)
     generalize W2.alloc _=W3 at*;rw[<-HSZ.out] at HSL;generalize hL:[y.ratio,y.price,y.value]=L at*;have HL3:=jq (show L.length=3 by rw[<-hL];rfl);clear hL c0 c1 c2 c3 c4 c5 c6 x5 HSZ HB;have HB:=jq HB3.out;clear HB3
     go_loopw [2,6,7,45] (fun r _ _ i w3=>∃(q:Nat),q<=3/\r=.int .i64 0/\i=.int .i64 q/\Hid (Kp w [(b5,#[.string ⟨y.other.toArray⟩,.string ⟨y.ratio.n.toArray⟩,.string ⟨y.ratio.d.toArray⟩,.string ⟨y.price.n.toArray⟩,.string ⟨y.price.d.toArray⟩,.string ⟨y.value.n.toArray⟩,.string ⟨y.value.d.toArray⟩],162),(w.1.size,fb,44)] w3)/\Hid (Below W3.1.size W3 w3)/\Hid (VD (L.drop q)=VD L)) (fun _ _ _ i _=>3-(intOf i).toNat)
     case atStart=>exact⟨0,by omega,rfl,rfl,HB,Below.refl _ _,(show _=_ by rw[List.drop_zero])⟩
     case round=>
      clear HB;obtain⟨q,hq3,rfl,rfl,HB,HBW,HBD⟩:=hrel
      by_cases hlt3:q<3
      ·obtain⟨g,off3,z,hA,hg,hz,e0,e1⟩:=(HSL.out.below HBW.out).fr hlt3
       injection hA with hA;injection hA with hA1 hA2 _;subst hA1;subst hA2;rw[Nat.zero_add] at e0 e1;have HZZ:=jq (HLZ.out z (List.mem_of_getElem? hz));have HB6:=jq (HB.out.new _ rfl #[.string ⟨z.n.toArray⟩,.string ⟨z.d.toArray⟩] 28);have HBW6:=jq (HBW.out.alloc HBW.out.size (.cells #[.string ⟨z.n.toArray⟩,.string ⟨z.d.toArray⟩] 28))
       have HD3:=jq (show VD L=if QT false false z≠0 then QT false false z else VD (L.drop (q+1)) by
        obtain⟨hk2,e⟩:=List.getElem?_eq_some_iff.1 hz
        rw[<-HBD.out,List.drop_eq_getElem_cons hk2,e];rfl)
       clear hz hg HBD;go_upto_region 15 with (fail)
       generalize wr.alloc _=W6 at*;generalize hb6:wr.1.size=b6 at*;clear hb6 e0 e1 HBW;have e0:W6.cell? ⟨b6,0,none⟩=some (.string ⟨z.n.toArray⟩):=HB6.out.c 0 0 rfl rfl;have e1:W6.cell? ⟨b6,1,none⟩=some (.string ⟨z.d.toArray⟩):=HB6.out.c 0 1 rfl rfl;have HBT:=jq (fun V=>ZdZ false false V);have HLM:=jq (fun p1 p2 V hp h1 h2=>VT false false z p1 p2 V hp HZZ.out h1 h2);generalize hnc:QT false false z=nc at*;clear hnc;unfold Qj S at*
       have hS:=jq (fun V (h:Bz W6 V)=>(show V.cell? ⟨b6,0,none⟩=some (.string ⟨z.n.toArray⟩)/\V.cell? ⟨b6,1,none⟩=some (.string ⟨z.d.toArray⟩) from⟨(HB6.out.here h).c 0 0 rfl rfl,(HB6.out.here h).c 0 1 rfl rfl⟩))
       go_region_held3 (fun w'=>w'.cell? ⟨b6,0,none⟩=some (.string ⟨z.n.toArray⟩)/\w'.cell? ⟨b6,1,none⟩=some (.string ⟨z.d.toArray⟩))
        (first
          |exact hS.out _ (by repeat' (first|assumption|exact Bz.refl _|refine Bz.drew ?_|refine Bz.alloc ?_ _|refine Bz.set ?_ (by first|assumption|exact Nat.le_refl _|exact Bz.size (by assumption)) _ _))
          |go_keep)
        (first
          |(go_at_call 202;refine(HBT.out _).mono ?_;rintro e v1 ⟨p1,p2,rfl,hx1,hx2,hb1⟩;have hz1:Bz W6 v1:=Bz.call (by repeat' (first|assumption|exact Bz.refl _|refine Bz.drew ?_|refine Bz.alloc ?_ _|refine Bz.set ?_ (by first|assumption|exact Nat.le_refl _|exact Bz.size (by assumption)) _ _)) hb1;have hy1:Below W6.1.size W6 v1:=hz1)
          |(go_at_call 267;refine(HLM.out p1 p2 _ (HB6.out.here hy1).pw hx1 hx2).mono ?_;rintro e v3 ⟨rfl,hb3⟩;have hz3:Bz W6 v3:=Bz.call (by repeat' (first|assumption|exact Bz.refl _|refine Bz.drew ?_|refine Bz.alloc ?_ _|refine Bz.set ?_ (by first|assumption|exact Nat.le_refl _|exact Bz.size (by assumption)) _ _)) hb3;have hy3:Below W6.1.size W6 v3:=hz3))
       all_goals
        have HB7:=jq (HB6.out.here hy3);have HBW7:=jq (HBW6.out.trans (hy3.mono HBW6.out.size))
        by_cases hn0:nc=0
        ·subst hn0;rw[if_neg (by simp)] at HD3;go_wp2_with fail
         go_roundw
         case rel=>exact⟨q+1,by omega,rfl,by go_num,HB7.out.tail,HBW7,HD3.out.symm⟩
         case measure=>simp[intOf];omega
        ·rw[if_pos hn0] at HD3;rw[if_pos (by rw[HD3.out];exact hn0)] at HDR;rw[HDR.out,HD3.out] at HR;have hn1:(nc !=0)=true:=by simpa using hn0
         clear hn0;go_wp2_with fail
         first|go_ret|skip
         exact⟨Qa HR.out.symm,HB7.out.bl⟩
      ·obtain rfl:q=3:=by omega
       have HB0:=jq (show VD L=0 by
        rw[<-HBD.out,List.drop_eq_nil_of_le (by rw[HL3.out];exact Nat.le_refl _)];rfl)
       rw[HB0.out,if_neg (by simp)] at HDR;clear HBD HB0 HBW;have c0:wr.cell? ⟨b5,0,none⟩=some (.string ⟨y.other.toArray⟩):=HB.out.c 0 0 rfl rfl;have c1:wr.cell? ⟨b5,1,none⟩=some (.string ⟨y.ratio.n.toArray⟩):=HB.out.c 0 1 rfl rfl;have c2:wr.cell? ⟨b5,2,none⟩=some (.string ⟨y.ratio.d.toArray⟩):=HB.out.c 0 2 rfl rfl;have c5:wr.cell? ⟨b5,5,none⟩=some (.string ⟨y.value.n.toArray⟩):=HB.out.c 0 5 rfl rfl;have c6:wr.cell? ⟨b5,6,none⟩=some (.string ⟨y.value.d.toArray⟩):=HB.out.c 0 6 rfl rfl
       have HDQ:=jq (show VO inst f.options=if(((!(y.other==[])) !=(!((y.ratio.n==[])&&(y.ratio.d==[]))))||((y.other==[])&& !((y.value.n==[])&&(y.value.d==[]))))=true then 2 else VO inst (f.options.drop (k+1)) by
        rw[HDR.out]
        congr 1
        exact propext (ZfX y))
       clear HDR
       cases e1:(y.other==[])<;>cases e2:(y.ratio.n==[])<;>cases e3:(y.ratio.d==[])<;>cases e4:(y.value.n==[])<;>cases e5:(y.value.d==[])
       all_goals
        rw[e1,e2,e3,e4,e5] at HDQ
        first
         |(rw[if_pos (by decide)] at HDQ
           go_upto_region 19 with (fail)
           go_region
           all_goals
            go_wp2_with fail
            first|go_ret|skip
            exact⟨Qa (by rw[HR.out,HDQ.out]),HB.out.drew.bl⟩)
         |(rw[if_neg (by decide)] at HDQ
           go_upto_region 19 with (fail)
           go_region
           all_goals
            go_wp2_with fail
            go_roundw
            case rel=>exact⟨k+1,by omega,rfl,by go_num,HB.out.drew.tail,HDQ.out.symm⟩
            case measure=>simp[intOf];omega)
  ·obtain rfl:k=N:=by omega
   have HQ2:=jq (show VO inst f.options=0 by
    rw[<-HQ.out,List.drop_eq_nil_of_le (by rw[<-HNP.out];exact Nat.le_refl _)];rfl)
   rw[HQ2.out] at HR;go_wp2_with fail
   first|go_ret|skip
   exact⟨Qa HR.out.symm,H.out.bl⟩
end
end Go.Proofs.YtokjnjdbnabchaaGreatDoor
