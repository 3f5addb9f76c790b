/- Lt2, Lt3, Lt5. -/
import Derived.Test.YtmamnnaiogidaaaGreatDoorQGU9
import Derived.Test.YtmamnnaiogidaaaGreatDoorQGU42
import Derived.Test.YtmamnnaiogidaaaGreatDoorQGU17
import Derived.Laws.Cover1
set_option maxRecDepth 20000
set_option maxHeartbeats 2000000
namespace Go.Proofs.YtmamnnaiogidaaaGreatDoor
open Go.Lib renaming hid→jq
open Go.RowKit Go.Shelf
section
theorem ZmM(n:Int):decide (QO n<=0)=decide (n<=0):=by unfold QO;(repeat' split)<;>simp<;>omega
theorem ZmN(n:Int):decide (QO n<0)=decide (n<0):=by unfold QO;(repeat' split)<;>simp<;>omega
theorem ZdC(l:Lot)(hl:l.Sz 50000):Xh 101 #[XV l] (.int .i64 (Jv l)):=by
 intro w hp
 have HPO:=jq (show Jv l=if !(idB l.id&&Qk l.inst) then 23 else if !(Yo l.acq&&Yo l.opn) then 13 else if l.opn<l.acq then 8
  else if !(Xo l.q&&Xo l.c&&Xo l.u) then 1 else if val l.q<=0\/val l.c<0\/(l.u≠[]/\l.u≠l.q) then 2 else 0 from rfl)
 generalize Jv l=res at*;have H:=jq ((Kp.start hp).new w.1.size rfl #[.string ⟨l.id.toArray⟩,.string ⟨l.inst.toArray⟩,.int .i64 l.acq,.int .i64 l.opn,.string ⟨l.q.toArray⟩,.string ⟨l.c.toArray⟩,.string ⟨l.u.toArray⟩] 50);have HID:=jq (ZkE l.id (by have:=hl.id;omega));have HNM:=jq (XB l.inst);have HAQ:=jq (Zdq l.acq hl.a1 hl.a2);have HOP:=jq (Zdq l.opn hl.o1 hl.o2);have HCQ:=jq (Xy l.q (by have:=hl.q;omega));have HCC:=jq (Xy l.c (by have:=hl.c;omega));have HCU:=jq (Xy l.u (by have:=hl.u;omega));have HMQ:=jq (fun W=>QC l.q [] W (by have:=hl.q;omega) (by simp));have HMC:=jq (fun W=>QC l.c [] W (by have:=hl.c;omega) (by simp));rw[XQ,Int.sub_zero] at HMQ HMC;obtain⟨b1,hb1⟩:∃b,b= !(idB l.id&&Qk l.inst):=⟨_,rfl⟩
 obtain⟨b2,hb2⟩:∃b,b= !(Yo l.acq&&Yo l.opn):=⟨_,rfl⟩
 have B1:=jq hb1;have B2:=jq hb2;rw[<-hb1,<-hb2] at HPO;clear hb1 hb2 hl hp;have x0:(w.alloc (.cells #[.string ⟨l.id.toArray⟩,.string ⟨l.inst.toArray⟩,.int .i64 l.acq,.int .i64 l.opn,.string ⟨l.q.toArray⟩,.string ⟨l.c.toArray⟩,.string ⟨l.u.toArray⟩] 50)).cell? ⟨w.1.size,0,none⟩=some (.string ⟨l.id.toArray⟩):=H.out.c 0 0 rfl rfl;unfold XV;unfold S at*
 go_enter Tryz.func101,Tryz.ntmps101
 go_upto_region 1 with (fail)
 generalize (w.alloc _)=W0 at*;go_upto_region 1 with (fail)
 go_cut [14] (fun s wc=>s=.bool b1/\Hid (Kp w [(w.1.size,#[.string ⟨l.id.toArray⟩,.string ⟨l.inst.toArray⟩,.int .i64 l.acq,.int .i64 l.opn,.string ⟨l.q.toArray⟩,.string ⟨l.c.toArray⟩,.string ⟨l.u.toArray⟩],50)] wc))
 case first=>
  cases e1:idB l.id
  ·rw[e1] at HID;have HE:=jq (show b1=true by rw[B1.out,e1];rfl);clear e1;go_wp2_with fail
   refine(HID.out _ H.out.pw).mono ?_;rintro e v1 ⟨rfl,hb⟩;replace H:=jq (H.out.here hb);clear hb;clear x0;go_wp2_with fail
   go_meet
   exact⟨by rw[HE.out],H⟩
  ·rw[e1] at HID;have HE:=jq (show b1= !Qk l.inst by rw[B1.out,e1];rfl);clear e1;go_wp2_with fail
   refine(HID.out _ H.out.pw).mono ?_;rintro e v1 ⟨rfl,hb⟩;replace H:=jq (H.out.here hb);clear hb;clear x0;have x1:v1.cell? ⟨w.1.size,1,none⟩=some (.string ⟨l.inst.toArray⟩):=H.out.c 0 1 rfl rfl;go_wp2_with fail
   refine(HNM.out _ H.out.pw).mono ?_;rintro e v2 ⟨rfl,hb⟩;replace H:=jq (H.out.here hb);clear hb;go_wp2_with fail
   go_meet
   exact⟨by rw[HE.out],H⟩
 case rest=>
 obtain⟨rfl,H⟩:=hcut
 obtain⟨v3,rfl⟩:∃W,W=wc:=⟨_,rfl⟩
 cases b1 with
 |true=>
  rw[if_pos rfl] at HPO;go_wp2_with fail
  first|go_ret|skip
  rw[HPO.out];exact⟨rfl,H.out.bl⟩
 |false=>
 rw[if_neg (by decide)] at HPO;clear HID HNM B1;have x2:v3.cell? ⟨w.1.size,2,none⟩=some (.int .i64 l.acq):=H.out.c 0 2 rfl rfl;go_upto_region 3 with (fail)
 go_cut [24] (fun s wc=>s=.bool b2/\Hid (Kp w [(w.1.size,#[.string ⟨l.id.toArray⟩,.string ⟨l.inst.toArray⟩,.int .i64 l.acq,.int .i64 l.opn,.string ⟨l.q.toArray⟩,.string ⟨l.c.toArray⟩,.string ⟨l.u.toArray⟩],50)] wc))
 case first=>
  cases e1:Yo l.acq
  ·rw[e1] at HAQ;have HE:=jq (show b2=true by rw[B2.out,e1];rfl);clear e1;go_wp2_with fail
   refine(HAQ.out _ H.out.pw).mono ?_;rintro e v1 ⟨rfl,hb⟩;replace H:=jq (H.out.here hb);clear hb;clear x2;go_wp2_with fail
   go_meet
   exact⟨by rw[HE.out],H⟩
  ·rw[e1] at HAQ;have HE:=jq (show b2= !Yo l.opn by rw[B2.out,e1];rfl);clear e1;go_wp2_with fail
   refine(HAQ.out _ H.out.pw).mono ?_;rintro e v1 ⟨rfl,hb⟩;replace H:=jq (H.out.here hb);clear hb;clear x2;have x3:v1.cell? ⟨w.1.size,3,none⟩=some (.int .i64 l.opn):=H.out.c 0 3 rfl rfl;go_wp2_with fail
   refine(HOP.out _ H.out.pw).mono ?_;rintro e v2 ⟨rfl,hb⟩;replace H:=jq (H.out.here hb);clear hb;go_wp2_with fail
   go_meet
   exact⟨by rw[HE.out],H⟩
 case rest=>
 obtain⟨rfl,H⟩:=hcut
 obtain⟨v4,rfl⟩:∃W,W=wc:=⟨_,rfl⟩
 cases b2 with
 |true=>
  rw[if_pos rfl] at HPO;go_wp2_with fail
  first|go_ret|skip
  rw[HPO.out];exact⟨rfl,H.out.bl⟩
 |false=>
 rw[if_neg (by decide)] at HPO;clear HAQ HOP B2;have x2:v4.cell? ⟨w.1.size,2,none⟩=some (.int .i64 l.acq):=H.out.c 0 2 rfl rfl;have x3:v4.cell? ⟨w.1.size,3,none⟩=some (.int .i64 l.opn):=H.out.c 0 3 rfl rfl
 by_cases h3:l.opn<l.acq
 ·rw[if_pos h3] at HPO;go_wp2_with fail
  first|go_ret|skip
  rw[HPO.out];exact⟨rfl,H.out.bl⟩
 rw[if_neg h3] at HPO;have x4:v4.cell? ⟨w.1.size,4,none⟩=some (.string ⟨l.q.toArray⟩):=H.out.c 0 4 rfl rfl;have x5:v4.cell? ⟨w.1.size,5,none⟩=some (.string ⟨l.c.toArray⟩):=H.out.c 0 5 rfl rfl;have x6:v4.cell? ⟨w.1.size,6,none⟩=some (.string ⟨l.u.toArray⟩):=H.out.c 0 6 rfl rfl;have HSL:=jq (show Vk (v4.alloc (.cells #[.string ⟨l.q.toArray⟩,.string ⟨l.c.toArray⟩,.string ⟨l.u.toArray⟩] 24)) (v4.1.size+1) (some ⟨v4.1.size,0,none⟩) 3 [l.q,l.c,l.u] from Sl.lit v4 _ 24 [l.q,l.c,l.u] rfl XW);have HSL2:=jq (show(v4.alloc (.cells #[.string ⟨l.q.toArray⟩,.string ⟨l.c.toArray⟩,.string ⟨l.u.toArray⟩] 24)).heap.size=v4.1.size+1 by simp);have H5:=jq (H.out.alloc (.cells #[.string ⟨l.q.toArray⟩,.string ⟨l.c.toArray⟩,.string ⟨l.u.toArray⟩] 24));go_upto_region 8 with (fail)
 generalize v4.alloc _=W5 at*;rw[<-HSL2.out] at HSL;clear H x2 x3 x4 x5 x6 HSL2 h3
 have HCK:=jq (show ∀x∈[l.q,l.c,l.u],Xh 92 #[.string ⟨x.toArray⟩] (.int .i64 (if x=Qa (val x) then 0 else 1)) by
  intro x hx;simp only[List.mem_cons,List.mem_nil_iff,or_false] at hx
  rcases hx with rfl|rfl|rfl
  ·exact HCQ.out
  ·exact HCC.out
  ·exact HCU.out)
 have HALL:=jq (show(Xo l.q&&Xo l.c&&Xo l.u)=[l.q,l.c,l.u].all Xo by simp[Bool.and_assoc]);rw[HALL.out] at HPO;clear HCQ HCC HCU HALL;generalize hls:[l.q,l.c,l.u]=ls at*;have HLS:=jq (show ls.length=3 by rw[<-hls];rfl);clear hls
 go_loopw [38] (fun i wr=>∃k:Nat,k<=3/\i=.int .i64 k/\Hid ((ls.take k).all Xo=true)/\Hid (Kp w [(w.1.size,#[.string ⟨l.id.toArray⟩,.string ⟨l.inst.toArray⟩,.int .i64 l.acq,.int .i64 l.opn,.string ⟨l.q.toArray⟩,.string ⟨l.c.toArray⟩,.string ⟨l.u.toArray⟩],50)] wr)/\Hid (Below W5.1.size W5 wr)) (fun i _=>3-(intOf i).toNat)
 case atStart=>exact⟨0,Nat.zero_le _,rfl,by show _=_;simp,H5,Below.refl _ _⟩
 case round=>
  clear H5;obtain⟨k,hk,rfl,HA,H,HB⟩:=hrel
  by_cases hlt:k<3
  ·obtain⟨b,off,x,hA,hbl,hx,d0⟩:=(HSL.out.below HB.out).st hlt
   injection hA with hA;injection hA with ha1 ha2;subst ha1;subst ha2
   rw[Nat.zero_add] at d0;have HC:=jq (HCK.out x (List.mem_of_getElem? hx));have HX:=jq hx;clear hx
   by_cases hc:x=Qa (val x)
   ·rw[if_pos hc] at HC;have HCB:=jq (show Xo x=true by unfold Xo;simpa using hc);clear hc;go_wp2_with fail
    refine(HC.out _ H.out.pw).mono ?_;rintro e v6 ⟨rfl,hb⟩;go_wp2_with fail
    go_roundw
    case rel=>exact⟨k+1,by omega,by go_num,(by
     show _=true
     obtain⟨hk3,e⟩:=List.getElem?_eq_some_iff.1 HX.out
     rw[List.take_succ_eq_append_getElem hk3,List.all_append,HA.out,e];simp[HCB.out]),H.out.here hb,HB.out.trans (hb.mono HB.out.size)⟩
    case measure=>simp[intOf];omega
   ·rw[if_neg hc] at HC
    have HCB:=jq (show ls.all Xo=false by
     rw[List.all_eq_false];exact⟨x,List.mem_of_getElem? HX.out,by unfold Xo;simpa using hc⟩)
    clear hc;rw[HCB.out,if_pos (by decide)] at HPO;go_wp2_with fail
    refine(HC.out _ H.out.pw).mono ?_;rintro e v6 ⟨rfl,hb⟩;go_wp2_with fail
    first|go_ret|skip
    rw[HPO.out];exact⟨rfl,(H.out.here hb).bl⟩
  ·have hk3:k=3:=by omega
   subst hk3;have HA3:=jq (show ls.all Xo=true by have:=HA.out;rwa [List.take_of_length_le (by have:=HLS.out;omega)] at this);rw[HA3.out,if_neg (by decide)] at HPO;clear HA hlt hk HCK;have x4:wr.cell? ⟨w.1.size,4,none⟩=some (.string ⟨l.q.toArray⟩):=H.out.c 0 4 rfl rfl;have HLE:=jq (ZmM (val l.q));have HLT:=jq (ZmN (val l.c));generalize QO (val l.q)=sq at*;generalize QO (val l.c)=sc at*
   by_cases h1:val l.q<=0
   ·rw[if_pos (.inl h1)] at HPO;have hd:decide (sq<=0)=true:=by rw[HLE.out];simpa using h1
    clear h1 HLE HLT HMC;go_wp2_with fail
    refine(HMQ.out _).mono ?_;rintro e v6 ⟨rfl,hb⟩;go_wp2_with fail
    first|go_ret|skip
    rw[HPO.out];exact⟨rfl,(H.out.here hb).bl⟩
   have hd:decide (sq<=0)=false:=by rw[HLE.out];simpa using h1
   go_wp2_with fail
   refine(HMQ.out _).mono ?_;rintro e v6 ⟨rfl,hb⟩;replace H:=jq (H.out.here hb);clear hb x4 HLE HMQ;have x5:v6.cell? ⟨w.1.size,5,none⟩=some (.string ⟨l.c.toArray⟩):=H.out.c 0 5 rfl rfl
   by_cases h2:val l.c<0
   ·rw[if_pos (.inr (.inl h2))] at HPO;have hd2:decide (sc<0)=true:=by rw[HLT.out];simpa using h2
    clear h1 h2 HLT;go_wp2_with fail
    refine(HMC.out _).mono ?_;rintro e v7 ⟨rfl,hb⟩;go_wp2_with fail
    first|go_ret|skip
    rw[HPO.out];exact⟨rfl,(H.out.here hb).bl⟩
   have hd2:decide (sc<0)=false:=by rw[HLT.out];simpa using h2
   go_wp2_with fail
   refine(HMC.out _).mono ?_;rintro e v7 ⟨rfl,hb⟩;replace H:=jq (H.out.here hb)
   have HR:=jq (show res=if(!(l.u==[])&& !(l.u==l.q))=true then 2 else 0 by
    rw[HPO.out]
    by_cases e1:l.u=[]<;>by_cases e2:l.u=l.q<;>simp[h1,h2,e1,e2])
   clear hb x5 HLT HMC h1 h2 HPO;have x4:v7.cell? ⟨w.1.size,4,none⟩=some (.string ⟨l.q.toArray⟩):=H.out.c 0 4 rfl rfl;have x6:v7.cell? ⟨w.1.size,6,none⟩=some (.string ⟨l.u.toArray⟩):=H.out.c 0 6 rfl rfl
   cases e1:(l.u==[])<;>cases e2:(l.u==l.q)
   all_goals
    rw[e1,e2] at HR;go_wp2_with fail
    first|go_ret|skip
    rw[HR.out];exact⟨rfl,H.out.bl⟩
end
section
theorem Sl.lot{w:World}{B:Nat}{A:Option Addr}{n:Nat}{xs:List Lot}{i:Nat}(h:Xg w B A n xs)(hi:i<n):
 ∃b off x,A=some ⟨b,off,none⟩/\b<B/\xs[i]?=some x/\w.cell? ⟨b,off+i*7,none⟩=some (.string ⟨x.id.toArray⟩)/\w.cell? ⟨b,off+i*7+1,none⟩=some (.string ⟨x.inst.toArray⟩)/\w.cell? ⟨b,off+i*7+2,none⟩=some (.int .i64 x.acq)/\
  w.cell? ⟨b,off+i*7+3,none⟩=some (.int .i64 x.opn)/\w.cell? ⟨b,off+i*7+4,none⟩=some (.string ⟨x.q.toArray⟩)/\w.cell? ⟨b,off+i*7+5,none⟩=some (.string ⟨x.c.toArray⟩)/\w.cell? ⟨b,off+i*7+6,none⟩=some (.string ⟨x.u.toArray⟩):=by
 obtain⟨b,off,x,hA,hb,hx,hc⟩:=h.at_ hi
 exact⟨b,off,x,hA,hb,hx,hc 0 _ rfl,hc 1 _ rfl,hc 2 _ rfl,hc 3 _ rfl,hc 4 _ rfl,hc 5 _ rfl,hc 6 _ rfl⟩
theorem JK(A:Option Addr)(n c:Nat)(ls:List Lot)(w:World)(hp:Env w)(hs:Xg w w.1.size A n ls)(hl:∀x∈ls,x.Sz 50000)(hn:n<=1000000000):Calls Tryz.prog 59 #[.slice A n c] w (QI (Xm ls) w):=by
 have HPO:=jq (show QI (Xm ls) w=fun e w'=>e=.returned (.int .i64 (Xm ls))/\Below w.1.size w w' from rfl);have HSC:=jq (show Xm ls=if 1000<ls.length then 4 else ZaY [] ls from rfl);generalize QI (Xm ls) w=post at*;generalize Xm ls=res at*;have HS:=jq hs;have hnw:=hs.1;have H:=jq (Kp.start hp);have HCK:=jq (fun x hx=>ZdC x (hl x hx));have HL:=jq hl;rw[<-hnw] at HSC;clear hs hl hp
 by_cases h1:1000<n
 ·rw[if_pos h1] at HSC;clear hnw hn;go_enter Tryz.func59,Tryz.ntmps59
  go_wp2_with fail
  first|go_ret|skip
  rw[HPO.out,HSC.out];exact⟨rfl,H.out.bl⟩
 rw[if_neg h1] at HSC;have hn1:¬1000<n:=h1;have HNW:=jq hnw;have hmm:= @run_makeMap Tryz.prog;have HM:=jq (Zje w);have H1:=jq (H.out.alloc (.map #[] 0));clear hnw h1 H;go_enter Tryz.func59,Tryz.ntmps59
 go_wp2_with fail
 generalize hW:w.alloc (.map #[] 0)=W at*;obtain⟨p,hpw⟩:∃p,w.1.size=p:=⟨_,rfl⟩
 rw[hpw] at HM ⊢;have HP:=jq hpw;clear hpw hW
 go_loopw [2,5,6,13] (fun r _ _ i wr=>∃(k:Nat) (seen:List (List UInt8)),k<=n/\r=.int .i64 0/\i=.int .i64 k/\Hid (Kp w [] wr)/\Hid (SeenB wr p k seen)/\Hid (ZaY seen (ls.drop k)=res)) (fun _ _ _ i _=>n-(intOf i).toNat)
 case atStart=>exact⟨0,[],Nat.zero_le _,rfl,rfl,H1,HM,by show _=_;rw[List.drop_zero];exact HSC.out.symm⟩
 case round=>
  clear H1 HM;obtain⟨k,seen,hk,rfl,rfl,H,HM,HQ⟩:=hrel
  by_cases hlt:k<n
  ·obtain⟨b,off,x,rfl,hb,hx,d0,d1,d2,d3,d4,d5,d6⟩:=(HS.out.below H.out.bl).lot hlt
   have HX:=jq hx;clear hx;have HB:=jq (H.out.new wr.1.size rfl #[.string ⟨x.id.toArray⟩,.string ⟨x.inst.toArray⟩,.int .i64 x.acq,.int .i64 x.opn,.string ⟨x.q.toArray⟩,.string ⟨x.c.toArray⟩,.string ⟨x.u.toArray⟩] 50);have HM2:=jq (HM.out.alloc (.cells #[.string ⟨x.id.toArray⟩,.string ⟨x.inst.toArray⟩,.int .i64 x.acq,.int .i64 x.opn,.string ⟨x.q.toArray⟩,.string ⟨x.c.toArray⟩,.string ⟨x.u.toArray⟩] 50));have HC:=jq (HCK.out x (List.mem_of_getElem? HX.out));have HZ:=jq (HL.out x (List.mem_of_getElem? HX.out))
   have HDR:=jq (show ZaY seen (x::ls.drop (k+1))=res by
    have hx:=HX.out;obtain⟨hk,rfl⟩:=List.getElem?_eq_some_iff.1 hx
    rw[<-List.drop_eq_getElem_cons hk];exact HQ.out)
   clear HQ;unfold XV S at HC;go_upto_region 7 with (fail)
   generalize wr.alloc _=W1 at*;clear d0 d1 d2 d3 d4 d5 d6 HM;generalize hbb:wr.1.size=b1 at*;clear hbb;have c0:=HB.out.c 0 0 rfl rfl;have c1:=HB.out.c 0 1 rfl rfl;have c2:=HB.out.c 0 2 rfl rfl;have c3:=HB.out.c 0 3 rfl rfl;have c4:=HB.out.c 0 4 rfl rfl;have c5:=HB.out.c 0 5 rfl rfl;have c6:=HB.out.c 0 6 rfl rfl;go_wp2_with fail
   refine(HC.out _ HB.out.pw).mono ?_;rintro e W2 ⟨rfl,hb2⟩;replace HB:=jq (HB.out.here hb2);replace HM2:=jq (HM2.out.here hb2);clear c0 c1 c2 c3 c4 c5 c6 hb2;have c0:=HB.out.c 0 0 rfl rfl;have hlk:=HM2.out.look (t:=166) Tryz.underlying166 (s:=x.id) (by have:=HZ.out.id;unfold maxLen;omega);obtain⟨W3,hput,HM3,hg⟩:=HM2.out.put (t:=166) Tryz.underlying166 (by unfold maxLen;omega) (s:=x.id) (by have:=HZ.out.id;unfold maxLen;omega)
   have HK3:=jq (HB.out.bare.turn hg (by have:=HP.out;omega));have HM4:=jq HM3;clear HM3 hg;have HLC:=jq (show ZaY seen (x::ls.drop (k+1))=if Jv x≠0 then Jv x else if x.id∈seen then 5 else ZaY (x.id::seen) (ls.drop (k+1)) from rfl);rw[HDR.out] at HLC;clear HDR;generalize Jv x=z at*
   by_cases hz:z=0
   ·have hz0:(z !=0)=false:=by simp[hz]
    rw[if_neg (by simpa using hz)] at HLC
    cases hin:decide (x.id∈seen) with
    |true=>
     rw[hin] at hlk;rw[if_pos (of_decide_eq_true hin)] at HLC;clear hin hz;go_wp2_with fail
     first|go_ret|skip
     rw[HPO.out,HLC.out];exact⟨rfl,HB.out.bl⟩
    |false=>
     rw[hin] at hlk;rw[if_neg (of_decide_eq_false hin)] at HLC;clear hin hz;go_wp2_with fail
     go_roundw
     case rel=>exact⟨k+1,x.id::seen,by omega,rfl,by go_num,HK3,HM4,HLC.out.symm⟩
     case measure=>simp[intOf];omega
   ·have hz0:(z !=0)=true:=by simp[hz]
    rw[if_pos hz] at HLC;clear hz;go_wp2_with fail
    first|go_ret|skip
    rw[HPO.out,HLC.out];exact⟨rfl,HB.out.bl⟩
  ·have HE:=jq (show res=0 by
    have:=HQ.out
    rw[List.drop_eq_nil_of_le (by have:=HNW.out;omega)] at this;exact this.symm)
   go_wp2_with fail
   first|go_ret|skip
   rw[HPO.out,HE.out];exact⟨rfl,H.out.bl⟩
end
section
attribute [local go_sem ↓] Go.wp_at_zero Go.wp_at_succ
theorem Znl(A:Option Addr)(n c i vb base:Nat)(xs:List Lot)(x:Lot)(w:World)(ho:Own L7 7 50 w base (.slice A n c) xs)(hv:BlkB w vb (XU x) 50)(hne:∀g,A=some ⟨g,0,none⟩->vb≠g)(hi:i<=n)(hn:n<=1000000)(hbs:base<=w.1.size):
 Calls Tryz.prog 111 #[.slice A n c,.int .i64 i,.slice (some ⟨vb,0,none⟩) 1 1] w (VZ base w (n+1) (xs.take i++x::xs.drop i)):=by
 have hnx:=ho.facts.1
 rcases Nat.lt_or_ge i n with h|h
 ·rcases ho.facts.2.2.2 with ⟨_,_,e⟩|⟨g,rfl,_,_⟩
  ·rw[e] at hnx;simp at hnx;omega
  ·rcases Nat.lt_or_ge c (n+1) with h2|h2
   ·exact Zlh g n c i vb base xs x w ho hv h h2 hn hbs
   ·exact Zlg g n c i vb base xs x w ho hv (hne g rfl) h h2 hn hbs
 ·obtain rfl:i=n:=by omega
  have hl:Xg w w.1.size (some ⟨vb,0,none⟩) 1 [x]:=by
   refine⟨rfl,fun _=>⟨vb,0,rfl,hv.lt,fun j y hj k u hk=> ?_⟩⟩
   cases j with
   |zero=>
    simp only[List.getElem?_cons_zero,Option.some.injEq] at hj;subst hj;rw[Nat.zero_mul,Nat.zero_add];exact hv.cell k (by rw[<-Zap];simpa using hk)
   |succ j=>simp at hj
  rw[List.take_of_length_le (by omega),List.drop_eq_nil_of_le (by omega)];exact ZmO A i c vb base xs x w ho hl hn hbs
theorem ZbK(ls:List Lot)(id:List UInt8):decide (0<=Zax ls id)=decide (id∈ls.map (·.id)):=by
 unfold Zax;rw[VF,Bool.eq_iff_iff,List.any_eq_true,decide_eq_true_eq,List.mem_map];simp
theorem ZhR{ls:List Lot}{k:Nat}{y:Lot}(i:List UInt8)(h:ls[k]?=some y):XY (ls.take (k+1)) i=if leS y.inst i=true then k+1 else XY (ls.take k) i:=by
 obtain⟨hk,rfl⟩:=List.getElem?_eq_some_iff.1 h
 rw[List.take_succ_eq_append_getElem hk,Zg3,List.length_take,Nat.min_eq_left (by omega)]
theorem ZeS(l:List Lot)(i:List UInt8):XY l i<=l.length:=Nat.sub_le _ _
theorem ZdU(A:Option Addr)(n c:Nat)(xs:List Lot)(w:World)(hr:Xg w w.1.size A n xs)(hn:n<=1000000)(hA:(A=none/\c=0)\/∃a,A=some a):
 Calls Tryz.prog 64 #[.slice A n c] w fun e w'=>∃A1 c1,e=.returned (.slice A1 n c1)/\Own L7 7 50 w' w.1.size (.slice A1 n c1) xs/\Below w.1.size w w':=by
 have hnx:=hr.1
 rcases hA with ⟨rfl,rfl⟩|⟨a,rfl⟩
 ·have h0:xs=[]:=by
   cases xs with
   |nil=>rfl
   |cons y ys=>obtain⟨b,off,h,_⟩:=hr.2 (by rw[hnx];simp);cases h
  subst h0;simp only[List.length_nil] at hnx;subst hnx;exact Zgs w
 ·have h:=Zgr a n c xs w hr hn;unfold RetOwn at h;rw[<-hnx] at h;exact h
theorem Zl0{W:World}{base n c g:Nat}{A:Option Addr}{xs:List Lot}(h:Own L7 7 50 W base (.slice A n c) xs)(hg:A=some ⟨g,0,none⟩):base<=g/\g<W.1.size:=by
 rcases h.facts.2.2.2 with ⟨e,_⟩|⟨g',e,h1,h2⟩
 ·rw[e] at hg;cases hg
 ·rw[e] at hg;injection hg with hg;injection hg with hg;subst hg;exact⟨h1,h2⟩
theorem s7{w W:World}{p:Nat}{T:TypeId}{a b c d e f g:Value}(h:Kp w [(p,#[a,b,c,d,e,f,g],T)] W):W.cell? ⟨p,0,none⟩=some a/\W.cell? ⟨p,1,none⟩=some b/\W.cell? ⟨p,2,none⟩=some c/\W.cell? ⟨p,3,none⟩=some d/\W.cell? ⟨p,4,none⟩=some e/\W.cell? ⟨p,5,none⟩=some f/\W.cell? ⟨p,6,none⟩=some g:=
 ⟨h.c 0 0 rfl rfl,h.c 0 1 rfl rfl,h.c 0 2 rfl rfl,h.c 0 3 rfl rfl,h.c 0 4 rfl rfl,h.c 0 5 rfl rfl,h.c 0 6 rfl rfl⟩
theorem s7b{W:World}{p:Nat}{T:TypeId}{a b c d e f g:Value}(h:BlkB W p #[a,b,c,d,e,f,g] T):W.cell? ⟨p,0,none⟩=some a/\W.cell? ⟨p,1,none⟩=some b/\W.cell? ⟨p,2,none⟩=some c/\W.cell? ⟨p,3,none⟩=some d/\W.cell? ⟨p,4,none⟩=some e/\W.cell? ⟨p,5,none⟩=some f/\W.cell? ⟨p,6,none⟩=some g:=
 ⟨h.cell 0 rfl,h.cell 1 rfl,h.cell 2 rfl,h.cell 3 rfl,h.cell 4 rfl,h.cell 5 rfl,h.cell 6 rfl⟩
theorem Zl1(A:Option Addr)(n c:Nat)(ls:List Lot)(x:Lot)(w:World)(hp:Env w)(hs:Xg w w.1.size A n ls)(hl:∀y∈ls,y.Sz 50000)(hx:x.Sz 50000)(hn:n<=1000000000)(hnil:(A=none/\c=0)\/∃b off,A=some ⟨b,off,none⟩):
 Calls Tryz.prog 69 #[.slice A n c,XV x] w (RetOwn2 L7 7 50 w.1.size w (Yj ls x)):=by
 have HPO:=jq (show RetOwn2 L7 7 50 w.1.size w (Yj ls x)=fun e w'=>∃A c,e=.returned (.tuple #[.slice A (Yj ls x).1.length c,.int .i64 (Yj ls x).2])/\Own L7 7 50 w' w.1.size (.slice A (Yj ls x).1.length c) (Yj ls x).1/\Below w.1.size w w' from rfl);have HSC:=jq (show Yj ls x=if Xm ls≠0 then([],1) else if Jv x≠0 then([],Jv x) else if x.id∈ls.map (·.id) then([],5) else if 1000<=ls.length then([],4) else(ZbO ls x,0) from rfl);have HPL:=jq (show ZbO ls x=ls.take (XY ls x.inst)++x::ls.drop (XY ls x.inst) from rfl);have hnw:=hs.1;have HCA:=jq (fun W (hb:Below w.1.size w W)=>JK A n c ls W (hp.here hb) (hs.here hb) hl hn);have HCK:=jq (ZdC x hx);have HFD:=jq (fun W (hb:Below w.1.size w W)=>Jr A n c ls x.id W (hs.here hb) hn);rw[ZbK] at HFD;have H:=jq ((Kp.start hp).new w.1.size rfl (XU x) 50);have HS:=jq hs;rw[<-hnw] at HSC;generalize RetOwn2 L7 7 50 w.1.size w (Yj ls x)=post at*;generalize Yj ls x=res at*;generalize ZbO ls x=pl at*;generalize max (Zax ls x.id) 0=fi at*;have HNW:=jq hnw;have HNIL:=jq hnil;clear hs hp hl hx hnw hnil;have e7:XU x=#[.string ⟨x.id.toArray⟩,.string ⟨x.inst.toArray⟩,.int .i64 x.acq,.int .i64 x.opn,.string ⟨x.q.toArray⟩,.string ⟨x.c.toArray⟩,.string ⟨x.u.toArray⟩]:=rfl;rw[e7] at H;clear e7;have c0:=H.out.c 0 0 rfl rfl;have c1:=H.out.c 0 1 rfl rfl;have c2:=H.out.c 0 2 rfl rfl;have c3:=H.out.c 0 3 rfl rfl;have c4:=H.out.c 0 4 rfl rfl;have c5:=H.out.c 0 5 rfl rfl;have c6:=H.out.c 0 6 rfl rfl;unfold XV S at*
 by_cases ha:Xm ls=0
 ·rw[if_neg (by simpa using ha)] at HSC;rw[ha] at HCA;clear ha
  by_cases hc:Jv x=0
  ·rw[if_neg (by simpa using hc)] at HSC;rw[hc] at HCK;clear hc;go_enter Tryz.func69,Tryz.ntmps69
   go_wp2_with fail
   generalize w.alloc _=W at*;refine(HCA.out _ H.out.bl).mono ?_;rintro e w1 ⟨rfl,hb⟩;have H1:=jq (H.out.here hb);clear H hb c0 c1 c2 c3 c4 c5 c6;have c0:=H1.out.c 0 0 rfl rfl;have c1:=H1.out.c 0 1 rfl rfl;have c2:=H1.out.c 0 2 rfl rfl;have c3:=H1.out.c 0 3 rfl rfl;have c4:=H1.out.c 0 4 rfl rfl;have c5:=H1.out.c 0 5 rfl rfl;have c6:=H1.out.c 0 6 rfl rfl;have HCK1:=jq (HCK.out w1 H1.out.pw);go_wp2_with fail
   refine HCK1.out.mono ?_;rintro e w2 ⟨rfl,hb⟩;have H2:=jq (H1.out.here hb);clear H1 HCK1 hb c0 c1 c2 c3 c4 c5 c6;have c0:=H2.out.c 0 0 rfl rfl;go_wp2_with fail
   refine(HFD.out _ H2.out.bl).mono ?_;rintro e w3 ⟨rfl,hb⟩;have H3:=jq (H2.out.here hb);clear H2 hb c0;have c0:=H3.out.c 0 0 rfl rfl;have c1:=H3.out.c 0 1 rfl rfl;have c2:=H3.out.c 0 2 rfl rfl;have c3:=H3.out.c 0 3 rfl rfl;have c4:=H3.out.c 0 4 rfl rfl;have c5:=H3.out.c 0 5 rfl rfl;have c6:=H3.out.c 0 6 rfl rfl
   by_cases hm:x.id∈ls.map (·.id)
   ·rw[if_pos hm] at HSC;rw[decide_eq_true hm];clear hm;go_wp2_with fail
    first|go_ret2|skip
    rw[HPO.out,HSC.out];exact⟨none,0,rfl,Own.nil,H3.out.bl⟩
   ·rw[if_neg hm] at HSC;rw[decide_eq_false hm];clear hm
    by_cases hth:1000<=n
    ·rw[if_pos hth] at HSC;have hth2:(1000:Int)<=(n:Int):=by omega
     clear hth;go_wp2_with fail
     first|go_ret2|skip
     rw[HPO.out,HSC.out];exact⟨none,0,rfl,Own.nil,H3.out.bl⟩
    ·rw[if_neg hth] at HSC;have hth2:¬(1000:Int)<=(n:Int):=by omega
     have HTH:=jq (show n<1000 by omega);clear hth;clear c0 c1 c2 c3 c4 c5 c6;go_wp2_with fail
     go_loopw [9,10,11,33] (fun a _ _ j wr=>∃k:Nat,k<=n/\j=.int .i64 k/\a=.int .i64 (XY (ls.take k) x.inst:Nat)/\Hid (Kp w [(w.1.size,#[.string ⟨x.id.toArray⟩,.string ⟨x.inst.toArray⟩,.int .i64 x.acq,.int .i64 x.opn,.string ⟨x.q.toArray⟩,.string ⟨x.c.toArray⟩,.string ⟨x.u.toArray⟩],50)] wr)) (fun _ _ _ j _=>n-(intOf j).toNat)
     case atStart=>exact⟨0,Nat.zero_le _,rfl,by simp[XY],H3⟩
     case round=>
      clear H3;obtain⟨k,hk,rfl,rfl,HK⟩:=hrel
      by_cases hlt:k<n
      ·obtain⟨b,off,y,rfl,hb,hy,d0,d1,d2,d3,d4,d5,d6⟩:=(HS.out.here HK.out.bl).lot7 hlt
       have HPT:=jq (ZhR x.inst hy);clear hy;have hxl:w.1.size<wr.1.size:=HK.out.lt 0 rfl;have hxn:w.1.size≠wr.1.size:=by omega
       have c1:=HK.out.c 0 1 rfl rfl;have HA:=jq (HK.out.alloc (.cells #[.string ⟨y.id.toArray⟩,.string ⟨y.inst.toArray⟩,.int .i64 y.acq,.int .i64 y.opn,.string ⟨y.q.toArray⟩,.string ⟨y.c.toArray⟩,.string ⟨y.u.toArray⟩] 50))
       cases hle:leS y.inst x.inst with
       |true=>
        rw[if_pos hle] at HPT;have hle2:(Op.bytesLess y.inst x.inst||y.inst==x.inst)=true:=hle;clear hle;go_wp2_with fail
        go_roundw
        case rel=>exact⟨k+1,by omega,by go_num,by rw[HPT.out];go_num,HA⟩
        case measure=>simp[intOf];omega
       |false=>
        rw[if_neg (by simp[hle])] at HPT;have hle2:(Op.bytesLess y.inst x.inst||y.inst==x.inst)=false:=hle;clear hle;go_wp2_with fail
        go_roundw
        case rel=>exact⟨k+1,by omega,by go_num,by rw[HPT.out],HA⟩
        case measure=>simp[intOf];omega
      ·obtain rfl:k=n:=by omega
       have c0:=HK.out.c 0 0 rfl rfl;have c1:=HK.out.c 0 1 rfl rfl;have c2:=HK.out.c 0 2 rfl rfl;have c3:=HK.out.c 0 3 rfl rfl;have c4:=HK.out.c 0 4 rfl rfl;have c5:=HK.out.c 0 5 rfl rfl;have c6:=HK.out.c 0 6 rfl rfl;have htk:ls.take k=ls:=List.take_of_length_le (by rw[HNW.out];exact Nat.le_refl _);have HPP:=jq (show XY (ls.take k) x.inst=XY ls x.inst by rw[htk]);have hpk:XY (ls.take k) x.inst<=k:=by have:=ZeS (ls.take k) x.inst;rw[List.length_take] at this;omega
       clear htk;have HCL:=jq (fun W (hb:Below w.1.size w W)=>ZdU A k c ls W (HS.out.here hb) (by have:=HTH.out;omega) (HNIL.out.imp id (fun⟨b,off,h⟩=>⟨_,h⟩)));have HIN:=jq (fun W A1 c1 vb base (ho:Own L7 7 50 W base (.slice A1 k c1) ls) (hv:BlkB W vb #[.string ⟨x.id.toArray⟩,.string ⟨x.inst.toArray⟩,.int .i64 x.acq,.int .i64 x.opn,.string ⟨x.q.toArray⟩,.string ⟨x.c.toArray⟩,.string ⟨x.u.toArray⟩] 50) (hne:∀g,A1=some ⟨g,0,none⟩->vb≠g) (hbs:base<=W.1.size)=>Znl A1 k c1 (XY (ls.take k) x.inst) vb base ls x W ho hv hne hpk (by have:=HTH.out;omega) hbs);rw[HPP.out] at HIN;rw[<-HPL.out] at HIN;rw[<-HPP.out] at HIN
       have HLN:=jq (show pl.length=k+1 by
        rw[HPL.out,List.length_append,List.length_cons,List.length_take,List.length_drop,<-HNW.out];have:=ZeS ls x.inst
        rw[<-HNW.out] at this;omega)
       generalize XY (ls.take k) x.inst=pi at*;clear hpk HFD HCA HCK;go_wp2_with fail
       go_region_held3? (fun w'=>w'.cell? ⟨w.1.size,0,none⟩=some (.string ⟨x.id.toArray⟩)/\w'.cell? ⟨w.1.size,1,none⟩=some (.string ⟨x.inst.toArray⟩)/\w'.cell? ⟨w.1.size,2,none⟩=some (.int .i64 x.acq)/\w'.cell? ⟨w.1.size,3,none⟩=some (.int .i64 x.opn)/\w'.cell? ⟨w.1.size,4,none⟩=some (.string ⟨x.q.toArray⟩)/\w'.cell? ⟨w.1.size,5,none⟩=some (.string ⟨x.c.toArray⟩)/\w'.cell? ⟨w.1.size,6,none⟩=some (.string ⟨x.u.toArray⟩))
        (first
          |with_reducible exact s7b hk2
          |with_reducible exact s7 (hk1.alloc _)
          |with_reducible exact s7 hk1
          |with_reducible exact s7 (HK.out.alloc _).drew
          |with_reducible exact s7 HK.out.drew
          |go_keep)
        (first
          |(go_at_call 64
            first
             |((with_reducible refine(HCL.out _ HK.out.drew.bl).mono ?_);rintro e w1 ⟨A1,c1,rfl,ho1,hb1⟩;have hk1:=HK.out.drew.here hb1)
             |((with_reducible refine(HCL.out _ (HK.out.alloc (.cells #[.string ⟨x.id.toArray⟩,.string ⟨x.inst.toArray⟩,.int .i64 x.acq,.int .i64 x.opn,.string ⟨x.q.toArray⟩,.string ⟨x.c.toArray⟩,.string ⟨x.u.toArray⟩] 50)).drew.bl).mono ?_);rintro e w1 ⟨A1,c1,rfl,ho1,hb1⟩;have hk1:=(HK.out.alloc (.cells #[.string ⟨x.id.toArray⟩,.string ⟨x.inst.toArray⟩,.int .i64 x.acq,.int .i64 x.opn,.string ⟨x.q.toArray⟩,.string ⟨x.c.toArray⟩,.string ⟨x.u.toArray⟩] 50)).drew.here hb1;have hv1:BlkB w1 wr.1.size #[.string ⟨x.id.toArray⟩,.string ⟨x.inst.toArray⟩,.int .i64 x.acq,.int .i64 x.opn,.string ⟨x.q.toArray⟩,.string ⟨x.c.toArray⟩,.string ⟨x.u.toArray⟩] 50:=BlkB.here (w:=(wr.alloc (.cells #[.string ⟨x.id.toArray⟩,.string ⟨x.inst.toArray⟩,.int .i64 x.acq,.int .i64 x.opn,.string ⟨x.q.toArray⟩,.string ⟨x.c.toArray⟩,.string ⟨x.u.toArray⟩] 50)).drew) (heap_alloc_new wr _) hb1))
          |(go_at_call 111
            first
             |(have hne:∀g,A1=some ⟨g,0,none⟩->wr.1.size≠g:=fun g hg=>by(have:=(Zl0 ho1 hg).1;simp at this;omega)
               (with_reducible refine(HIN.out _ A1 c1 _ _ ho1 hv1 hne hb1.size).mono ?_);rintro e w2 ⟨A2,c2,rfl,ho2,hb2⟩;have hz2:=hb2.mono (show w.1.size<=_ from(HK.out.alloc (.cells #[.string ⟨x.id.toArray⟩,.string ⟨x.inst.toArray⟩,.int .i64 x.acq,.int .i64 x.opn,.string ⟨x.q.toArray⟩,.string ⟨x.c.toArray⟩,.string ⟨x.u.toArray⟩] 50)).drew.bl.size);have hf2:=hk1.bl.trans hz2;have ho3:=ho2.base_ (show w.1.size<=_ from(HK.out.alloc (.cells #[.string ⟨x.id.toArray⟩,.string ⟨x.inst.toArray⟩,.int .i64 x.acq,.int .i64 x.opn,.string ⟨x.q.toArray⟩,.string ⟨x.c.toArray⟩,.string ⟨x.u.toArray⟩] 50)).drew.bl.size);have hk2:BlkB w2 w.1.size #[.string ⟨x.id.toArray⟩,.string ⟨x.inst.toArray⟩,.int .i64 x.acq,.int .i64 x.opn,.string ⟨x.q.toArray⟩,.string ⟨x.c.toArray⟩,.string ⟨x.u.toArray⟩] 50:=(hb2.block _ ((HK.out.alloc (.cells #[.string ⟨x.id.toArray⟩,.string ⟨x.inst.toArray⟩,.int .i64 x.acq,.int .i64 x.opn,.string ⟨x.q.toArray⟩,.string ⟨x.c.toArray⟩,.string ⟨x.u.toArray⟩] 50)).drew.lt 0 rfl)).trans (hk1.at_ 0 rfl))
             |(have hv2:BlkB (w1.alloc (.cells #[.string ⟨x.id.toArray⟩,.string ⟨x.inst.toArray⟩,.int .i64 x.acq,.int .i64 x.opn,.string ⟨x.q.toArray⟩,.string ⟨x.c.toArray⟩,.string ⟨x.u.toArray⟩] 50)) w1.1.size #[.string ⟨x.id.toArray⟩,.string ⟨x.inst.toArray⟩,.int .i64 x.acq,.int .i64 x.opn,.string ⟨x.q.toArray⟩,.string ⟨x.c.toArray⟩,.string ⟨x.u.toArray⟩] 50:=heap_alloc_new w1 _
               have hne:∀g,A1=some ⟨g,0,none⟩->w1.1.size≠g:=fun g hg=>by(have:=(Zl0 ho1 hg).2;omega)
               (with_reducible refine(HIN.out _ A1 c1 _ _ (ho1.alloc (.cells #[.string ⟨x.id.toArray⟩,.string ⟨x.inst.toArray⟩,.int .i64 x.acq,.int .i64 x.opn,.string ⟨x.q.toArray⟩,.string ⟨x.c.toArray⟩,.string ⟨x.u.toArray⟩] 50)) hv2 hne (by have:=hb1.size;simp at *; omega)).mono ?_);rintro e w2 ⟨A2,c2,rfl,ho2,hb2⟩;have hz2:=hb2.mono (show w.1.size<=_ from HK.out.drew.bl.size);have hf2:=(hk1.alloc (.cells #[.string ⟨x.id.toArray⟩,.string ⟨x.inst.toArray⟩,.int .i64 x.acq,.int .i64 x.opn,.string ⟨x.q.toArray⟩,.string ⟨x.c.toArray⟩,.string ⟨x.u.toArray⟩] 50)).bl.trans hz2;have ho3:=ho2.base_ (show w.1.size<=_ from HK.out.drew.bl.size);have hk2:BlkB w2 w.1.size #[.string ⟨x.id.toArray⟩,.string ⟨x.inst.toArray⟩,.int .i64 x.acq,.int .i64 x.opn,.string ⟨x.q.toArray⟩,.string ⟨x.c.toArray⟩,.string ⟨x.u.toArray⟩] 50:=(hb2.block _ (HK.out.drew.lt 0 rfl)).trans ((hk1.alloc (.cells #[.string ⟨x.id.toArray⟩,.string ⟨x.inst.toArray⟩,.int .i64 x.acq,.int .i64 x.opn,.string ⟨x.q.toArray⟩,.string ⟨x.c.toArray⟩,.string ⟨x.u.toArray⟩] 50)).at_ 0 rfl))))
       all_goals
        go_wp2_with fail
        first|go_ret2|skip
        rw[HPO.out,HSC.out];rw[HLN.out];exact⟨A2,c2,rfl,ho3,hf2⟩
  ·rw[if_pos hc] at HSC;have hc0:(Jv x !=0)=true:=by simp[hc]
   clear hc;generalize Jv x=z at*;go_enter Tryz.func69,Tryz.ntmps69
   go_wp2_with fail
   generalize w.alloc _=W at*;refine(HCA.out _ H.out.bl).mono ?_;rintro e w1 ⟨rfl,hb⟩;have H1:=jq (H.out.here hb);clear H hb c0 c1 c2 c3 c4 c5 c6;have c0:=H1.out.c 0 0 rfl rfl;have c1:=H1.out.c 0 1 rfl rfl;have c2:=H1.out.c 0 2 rfl rfl;have c3:=H1.out.c 0 3 rfl rfl;have c4:=H1.out.c 0 4 rfl rfl;have c5:=H1.out.c 0 5 rfl rfl;have c6:=H1.out.c 0 6 rfl rfl;have HCK1:=jq (HCK.out w1 H1.out.pw);go_wp2_with fail
   refine HCK1.out.mono ?_;rintro e w2 ⟨rfl,hb⟩;go_wp2_with fail
   first|go_ret2|skip
   rw[HPO.out,HSC.out];exact⟨none,0,rfl,Own.nil,(H1.out.here hb).bl⟩
 ·rw[if_pos ha] at HSC;have ha0:(Xm ls !=0)=true:=by simp[ha]
  clear ha;generalize Xm ls=z at*;go_enter Tryz.func69,Tryz.ntmps69
  go_wp2_with fail
  generalize w.alloc _=W at*;refine(HCA.out _ H.out.bl).mono ?_;rintro e w1 ⟨rfl,hb⟩;go_wp2_with fail
  first|go_ret2|skip
  rw[HPO.out,HSC.out];exact⟨none,0,rfl,Own.nil,(H.out.here hb).bl⟩
end
end Go.Proofs.YtmamnnaiogidaaaGreatDoor
