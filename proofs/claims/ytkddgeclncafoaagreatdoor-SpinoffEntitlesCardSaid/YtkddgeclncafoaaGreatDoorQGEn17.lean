/- Lt2, Lt3. -/
import Derived.Test.YtkddgeclncafoaaGreatDoorQGEn18
import Derived.Test.YtkddgeclncafoaaGreatDoorQGEn28
import Derived.Test.YtkddgeclncafoaaGreatDoorQGEn39
set_option maxRecDepth 20000
set_option maxHeartbeats 2000000
namespace Go.Proofs.YtkddgeclncafoaaGreatDoor
open Go.Lib renaming hid→jq
open Go.RowKit Go.Shelf
section
theorem Zih(n:Int):decide (Qt n<=0)=decide (n<=0):=by unfold Qt;(repeat' split)<;>simp<;>omega
theorem Zcj(n:Int):decide (Qt n<0)=decide (n<0):=by unfold Qt;(repeat' split)<;>simp<;>omega
theorem Zhj(l:Lot)(hl:l.Sz 50000):XB 86 #[Zat l] (.int .i64 (VD l)):=by
 intro w hp
 have HPO:=jq (show VD l=if !(idB l.id&&Qp l.inst) then 23 else if !(VL l.acq&&VL l.opn) then 13 else if l.opn<l.acq then 8
  else if !(QH l.q&&QH l.c&&QH l.u) then 1 else if val l.q<=0\/val l.c<0\/(l.u≠[]/\l.u≠l.q) then 2 else 0 from rfl)
 generalize VD l=res at*;have H:=jq ((Kp.start hp).new w.1.size rfl #[.string ⟨l.id.toArray⟩,.string ⟨l.inst.toArray⟩,.int .i64 l.acq,.int .i64 l.opn,.string ⟨l.q.toArray⟩,.string ⟨l.c.toArray⟩,.string ⟨l.u.toArray⟩] 50);have HID:=jq (Zk8 l.id (by have:=hl.id;omega));have HNM:=jq (Jg l.inst);have HAQ:=jq (ZcO l.acq hl.a1 hl.a2);have HOP:=jq (ZcO l.opn hl.o1 hl.o2);have HCQ:=jq (Yt l.q (by have:=hl.q;omega));have HCC:=jq (Yt l.c (by have:=hl.c;omega));have HCU:=jq (Yt l.u (by have:=hl.u;omega));have HMQ:=jq (fun W=>QR l.q [] W (by have:=hl.q;omega) (by simp));have HMC:=jq (fun W=>QR l.c [] W (by have:=hl.c;omega) (by simp));rw[Xr,Int.sub_zero] at HMQ HMC;obtain⟨b1,hb1⟩:∃b,b= !(idB l.id&&Qp l.inst):=⟨_,rfl⟩
 obtain⟨b2,hb2⟩:∃b,b= !(VL l.acq&&VL l.opn):=⟨_,rfl⟩
 have B1:=jq hb1;have B2:=jq hb2;rw[<-hb1,<-hb2] at HPO;clear hb1 hb2 hl hp;have x0:(w.alloc (.cells #[.string ⟨l.id.toArray⟩,.string ⟨l.inst.toArray⟩,.int .i64 l.acq,.int .i64 l.opn,.string ⟨l.q.toArray⟩,.string ⟨l.c.toArray⟩,.string ⟨l.u.toArray⟩] 50)).cell? ⟨w.1.size,0,none⟩=some (.string ⟨l.id.toArray⟩):=H.out.c 0 0 rfl rfl;unfold Zat;unfold S at*
 go_enter Tryz.func86,Tryz.ntmps86
 go_upto_region 1 with (fail)
 generalize (w.alloc _)=W0 at*;go_upto_region 1 with (fail)
 go_cut [14] (fun s wc=>s=.bool b1/\Hid (Kp w [(w.1.size,#[.string ⟨l.id.toArray⟩,.string ⟨l.inst.toArray⟩,.int .i64 l.acq,.int .i64 l.opn,.string ⟨l.q.toArray⟩,.string ⟨l.c.toArray⟩,.string ⟨l.u.toArray⟩],50)] wc))
 case first=>
  cases e1:idB l.id
  ·rw[e1] at HID;have HE:=jq (show b1=true by rw[B1.out,e1];rfl);clear e1;go_wp2_with fail
   refine(HID.out _ H.out.pw).mono ?_;rintro e v1 ⟨rfl,hb⟩;replace H:=jq (H.out.here hb);clear hb;clear x0;go_wp2_with fail
   go_meet
   exact⟨by rw[HE.out],H⟩
  ·rw[e1] at HID;have HE:=jq (show b1= !Qp l.inst by rw[B1.out,e1];rfl);clear e1;go_wp2_with fail
   refine(HID.out _ H.out.pw).mono ?_;rintro e v1 ⟨rfl,hb⟩;replace H:=jq (H.out.here hb);clear hb;clear x0;have x1:v1.cell? ⟨w.1.size,1,none⟩=some (.string ⟨l.inst.toArray⟩):=H.out.c 0 1 rfl rfl;go_wp2_with fail
   refine(HNM.out _ H.out.pw).mono ?_;rintro e v2 ⟨rfl,hb⟩;replace H:=jq (H.out.here hb);clear hb;go_wp2_with fail
   go_meet
   exact⟨by rw[HE.out],H⟩
 case rest=>
 obtain⟨rfl,H⟩:=hcut
 obtain⟨v3,rfl⟩:∃W,W=wc:=⟨_,rfl⟩
 cases b1 with
 |true=>
  rw[if_pos rfl] at HPO;go_wp2_with fail
  first|go_ret|skip
  rw[HPO.out];exact⟨rfl,H.out.bl⟩
 |false=>
 rw[if_neg (by decide)] at HPO;clear HID HNM B1;have x2:v3.cell? ⟨w.1.size,2,none⟩=some (.int .i64 l.acq):=H.out.c 0 2 rfl rfl;go_upto_region 3 with (fail)
 go_cut [24] (fun s wc=>s=.bool b2/\Hid (Kp w [(w.1.size,#[.string ⟨l.id.toArray⟩,.string ⟨l.inst.toArray⟩,.int .i64 l.acq,.int .i64 l.opn,.string ⟨l.q.toArray⟩,.string ⟨l.c.toArray⟩,.string ⟨l.u.toArray⟩],50)] wc))
 case first=>
  cases e1:VL l.acq
  ·rw[e1] at HAQ;have HE:=jq (show b2=true by rw[B2.out,e1];rfl);clear e1;go_wp2_with fail
   refine(HAQ.out _ H.out.pw).mono ?_;rintro e v1 ⟨rfl,hb⟩;replace H:=jq (H.out.here hb);clear hb;clear x2;go_wp2_with fail
   go_meet
   exact⟨by rw[HE.out],H⟩
  ·rw[e1] at HAQ;have HE:=jq (show b2= !VL l.opn by rw[B2.out,e1];rfl);clear e1;go_wp2_with fail
   refine(HAQ.out _ H.out.pw).mono ?_;rintro e v1 ⟨rfl,hb⟩;replace H:=jq (H.out.here hb);clear hb;clear x2;have x3:v1.cell? ⟨w.1.size,3,none⟩=some (.int .i64 l.opn):=H.out.c 0 3 rfl rfl;go_wp2_with fail
   refine(HOP.out _ H.out.pw).mono ?_;rintro e v2 ⟨rfl,hb⟩;replace H:=jq (H.out.here hb);clear hb;go_wp2_with fail
   go_meet
   exact⟨by rw[HE.out],H⟩
 case rest=>
 obtain⟨rfl,H⟩:=hcut
 obtain⟨v4,rfl⟩:∃W,W=wc:=⟨_,rfl⟩
 cases b2 with
 |true=>
  rw[if_pos rfl] at HPO;go_wp2_with fail
  first|go_ret|skip
  rw[HPO.out];exact⟨rfl,H.out.bl⟩
 |false=>
 rw[if_neg (by decide)] at HPO;clear HAQ HOP B2;have x2:v4.cell? ⟨w.1.size,2,none⟩=some (.int .i64 l.acq):=H.out.c 0 2 rfl rfl;have x3:v4.cell? ⟨w.1.size,3,none⟩=some (.int .i64 l.opn):=H.out.c 0 3 rfl rfl
 by_cases h3:l.opn<l.acq
 ·rw[if_pos h3] at HPO;go_wp2_with fail
  first|go_ret|skip
  rw[HPO.out];exact⟨rfl,H.out.bl⟩
 rw[if_neg h3] at HPO;have x4:v4.cell? ⟨w.1.size,4,none⟩=some (.string ⟨l.q.toArray⟩):=H.out.c 0 4 rfl rfl;have x5:v4.cell? ⟨w.1.size,5,none⟩=some (.string ⟨l.c.toArray⟩):=H.out.c 0 5 rfl rfl;have x6:v4.cell? ⟨w.1.size,6,none⟩=some (.string ⟨l.u.toArray⟩):=H.out.c 0 6 rfl rfl;have HSL:=jq (show Yu (v4.alloc (.cells #[.string ⟨l.q.toArray⟩,.string ⟨l.c.toArray⟩,.string ⟨l.u.toArray⟩] 24)) (v4.1.size+1) (some ⟨v4.1.size,0,none⟩) 3 [l.q,l.c,l.u] from Sl.lit v4 _ 24 [l.q,l.c,l.u] rfl Vu);have HSL2:=jq (show(v4.alloc (.cells #[.string ⟨l.q.toArray⟩,.string ⟨l.c.toArray⟩,.string ⟨l.u.toArray⟩] 24)).heap.size=v4.1.size+1 by simp);have H5:=jq (H.out.alloc (.cells #[.string ⟨l.q.toArray⟩,.string ⟨l.c.toArray⟩,.string ⟨l.u.toArray⟩] 24));go_upto_region 8 with (fail)
 generalize v4.alloc _=W5 at*;rw[<-HSL2.out] at HSL;clear H x2 x3 x4 x5 x6 HSL2 h3
 have HCK:=jq (show ∀x∈[l.q,l.c,l.u],XB 48 #[.string ⟨x.toArray⟩] (.int .i64 (if x=Qa (val x) then 0 else 1)) by
  intro x hx;simp only[List.mem_cons,List.mem_nil_iff,or_false] at hx
  rcases hx with rfl|rfl|rfl
  ·exact HCQ.out
  ·exact HCC.out
  ·exact HCU.out)
 have HALL:=jq (show(QH l.q&&QH l.c&&QH l.u)=[l.q,l.c,l.u].all QH by simp[Bool.and_assoc]);rw[HALL.out] at HPO;clear HCQ HCC HCU HALL;generalize hls:[l.q,l.c,l.u]=ls at*;have HLS:=jq (show ls.length=3 by rw[<-hls];rfl);clear hls
 go_loopw [38] (fun i wr=>∃k:Nat,k<=3/\i=.int .i64 k/\Hid ((ls.take k).all QH=true)/\Hid (Kp w [(w.1.size,#[.string ⟨l.id.toArray⟩,.string ⟨l.inst.toArray⟩,.int .i64 l.acq,.int .i64 l.opn,.string ⟨l.q.toArray⟩,.string ⟨l.c.toArray⟩,.string ⟨l.u.toArray⟩],50)] wr)/\Hid (Below W5.1.size W5 wr)) (fun i _=>3-(intOf i).toNat)
 case atStart=>exact⟨0,Nat.zero_le _,rfl,by show _=_;simp,H5,Below.refl _ _⟩
 case round=>
  clear H5;obtain⟨k,hk,rfl,HA,H,HB⟩:=hrel
  by_cases hlt:k<3
  ·obtain⟨b,off,x,hA,hbl,hx,d0⟩:=(HSL.out.below HB.out).st hlt
   injection hA with hA;injection hA with ha1 ha2;subst ha1;subst ha2
   rw[Nat.zero_add] at d0;have HC:=jq (HCK.out x (List.mem_of_getElem? hx));have HX:=jq hx;clear hx
   by_cases hc:x=Qa (val x)
   ·rw[if_pos hc] at HC;have HCB:=jq (show QH x=true by unfold QH;simpa using hc);clear hc;go_wp2_with fail
    refine(HC.out _ H.out.pw).mono ?_;rintro e v6 ⟨rfl,hb⟩;go_wp2_with fail
    go_roundw
    case rel=>exact⟨k+1,by omega,by go_num,(by
     show _=true
     obtain⟨hk3,e⟩:=List.getElem?_eq_some_iff.1 HX.out
     rw[List.take_succ_eq_append_getElem hk3,List.all_append,HA.out,e];simp[HCB.out]),H.out.here hb,HB.out.trans (hb.mono HB.out.size)⟩
    case measure=>simp[intOf];omega
   ·rw[if_neg hc] at HC
    have HCB:=jq (show ls.all QH=false by
     rw[List.all_eq_false];exact⟨x,List.mem_of_getElem? HX.out,by unfold QH;simpa using hc⟩)
    clear hc;rw[HCB.out,if_pos (by decide)] at HPO;go_wp2_with fail
    refine(HC.out _ H.out.pw).mono ?_;rintro e v6 ⟨rfl,hb⟩;go_wp2_with fail
    first|go_ret|skip
    rw[HPO.out];exact⟨rfl,(H.out.here hb).bl⟩
  ·have hk3:k=3:=by omega
   subst hk3;have HA3:=jq (show ls.all QH=true by have:=HA.out;rwa [List.take_of_length_le (by have:=HLS.out;omega)] at this);rw[HA3.out,if_neg (by decide)] at HPO;clear HA hlt hk HCK;have x4:wr.cell? ⟨w.1.size,4,none⟩=some (.string ⟨l.q.toArray⟩):=H.out.c 0 4 rfl rfl;have HLE:=jq (Zih (val l.q));have HLT:=jq (Zcj (val l.c));generalize Qt (val l.q)=sq at*;generalize Qt (val l.c)=sc at*
   by_cases h1:val l.q<=0
   ·rw[if_pos (.inl h1)] at HPO;have hd:decide (sq<=0)=true:=by rw[HLE.out];simpa using h1
    clear h1 HLE HLT HMC;go_wp2_with fail
    refine(HMQ.out _).mono ?_;rintro e v6 ⟨rfl,hb⟩;go_wp2_with fail
    first|go_ret|skip
    rw[HPO.out];exact⟨rfl,(H.out.here hb).bl⟩
   have hd:decide (sq<=0)=false:=by rw[HLE.out];simpa using h1
   go_wp2_with fail
   refine(HMQ.out _).mono ?_;rintro e v6 ⟨rfl,hb⟩;replace H:=jq (H.out.here hb);clear hb x4 HLE HMQ;have x5:v6.cell? ⟨w.1.size,5,none⟩=some (.string ⟨l.c.toArray⟩):=H.out.c 0 5 rfl rfl
   by_cases h2:val l.c<0
   ·rw[if_pos (.inr (.inl h2))] at HPO;have hd2:decide (sc<0)=true:=by rw[HLT.out];simpa using h2
    clear h1 h2 HLT;go_wp2_with fail
    refine(HMC.out _).mono ?_;rintro e v7 ⟨rfl,hb⟩;go_wp2_with fail
    first|go_ret|skip
    rw[HPO.out];exact⟨rfl,(H.out.here hb).bl⟩
   have hd2:decide (sc<0)=false:=by rw[HLT.out];simpa using h2
   go_wp2_with fail
   refine(HMC.out _).mono ?_;rintro e v7 ⟨rfl,hb⟩;replace H:=jq (H.out.here hb)
   have HR:=jq (show res=if(!(l.u==[])&& !(l.u==l.q))=true then 2 else 0 by
    rw[HPO.out]
    by_cases e1:l.u=[]<;>by_cases e2:l.u=l.q<;>simp[h1,h2,e1,e2])
   clear hb x5 HLT HMC h1 h2 HPO;have x4:v7.cell? ⟨w.1.size,4,none⟩=some (.string ⟨l.q.toArray⟩):=H.out.c 0 4 rfl rfl;have x6:v7.cell? ⟨w.1.size,6,none⟩=some (.string ⟨l.u.toArray⟩):=H.out.c 0 6 rfl rfl
   cases e1:(l.u==[])<;>cases e2:(l.u==l.q)
   all_goals
    rw[e1,e2] at HR;go_wp2_with fail
    first|go_ret|skip
    rw[HR.out];exact⟨rfl,H.out.bl⟩
end
section
theorem Sl.lot{w:World}{B:Nat}{A:Option Addr}{n:Nat}{xs:List Lot}{i:Nat}(h:YI w B A n xs)(hi:i<n):
 ∃b off x,A=some ⟨b,off,none⟩/\b<B/\xs[i]?=some x/\w.cell? ⟨b,off+i*7,none⟩=some (.string ⟨x.id.toArray⟩)/\w.cell? ⟨b,off+i*7+1,none⟩=some (.string ⟨x.inst.toArray⟩)/\w.cell? ⟨b,off+i*7+2,none⟩=some (.int .i64 x.acq)/\
  w.cell? ⟨b,off+i*7+3,none⟩=some (.int .i64 x.opn)/\w.cell? ⟨b,off+i*7+4,none⟩=some (.string ⟨x.q.toArray⟩)/\w.cell? ⟨b,off+i*7+5,none⟩=some (.string ⟨x.c.toArray⟩)/\w.cell? ⟨b,off+i*7+6,none⟩=some (.string ⟨x.u.toArray⟩):=by
 obtain⟨b,off,x,hA,hb,hx,hc⟩:=h.at_ hi
 exact⟨b,off,x,hA,hb,hx,hc 0 _ rfl,hc 1 _ rfl,hc 2 _ rfl,hc 3 _ rfl,hc 4 _ rfl,hc 5 _ rfl,hc 6 _ rfl⟩
theorem ZeX(A:Option Addr)(n c:Nat)(ls:List Lot)(w:World)(hp:Env w)(hs:YI w w.1.size A n ls)(hl:∀x∈ls,x.Sz 50000)(hn:n<=1000000000):Calls Tryz.prog 44 #[.slice A n c] w (Qn (Vm ls) w):=by
 have HPO:=jq (show Qn (Vm ls) w=fun e w'=>e=.returned (.int .i64 (Vm ls))/\Below w.1.size w w' from rfl);have HSC:=jq (show Vm ls=if 1000<ls.length then 4 else Vl [] ls from rfl);generalize Qn (Vm ls) w=post at*;generalize Vm ls=res at*;have HS:=jq hs;have hnw:=hs.1;have H:=jq (Kp.start hp);have HCK:=jq (fun x hx=>Zhj x (hl x hx));have HL:=jq hl;rw[<-hnw] at HSC;clear hs hl hp
 by_cases h1:1000<n
 ·rw[if_pos h1] at HSC;clear hnw hn;go_enter Tryz.func44,Tryz.ntmps44
  go_wp2_with fail
  first|go_ret|skip
  rw[HPO.out,HSC.out];exact⟨rfl,H.out.bl⟩
 rw[if_neg h1] at HSC;have hn1:¬1000<n:=h1;have HNW:=jq hnw;have hmm:= @run_makeMap Tryz.prog;have HM:=jq (Zjp w);have H1:=jq (H.out.alloc (.map #[] 0));clear hnw h1 H;go_enter Tryz.func44,Tryz.ntmps44
 go_wp2_with fail
 generalize hW:w.alloc (.map #[] 0)=W at*;obtain⟨p,hpw⟩:∃p,w.1.size=p:=⟨_,rfl⟩
 rw[hpw] at HM ⊢;have HP:=jq hpw;clear hpw hW
 go_loopw [2,5,6,13] (fun r _ _ i wr=>∃(k:Nat) (seen:List (List UInt8)),k<=n/\r=.int .i64 0/\i=.int .i64 k/\Hid (Kp w [] wr)/\Hid (SeenB wr p k seen)/\Hid (Vl seen (ls.drop k)=res)) (fun _ _ _ i _=>n-(intOf i).toNat)
 case atStart=>exact⟨0,[],Nat.zero_le _,rfl,rfl,H1,HM,by show _=_;rw[List.drop_zero];exact HSC.out.symm⟩
 case round=>
  clear H1 HM;obtain⟨k,seen,hk,rfl,rfl,H,HM,HQ⟩:=hrel
  by_cases hlt:k<n
  ·obtain⟨b,off,x,rfl,hb,hx,d0,d1,d2,d3,d4,d5,d6⟩:=(HS.out.below H.out.bl).lot hlt
   have HX:=jq hx;clear hx;have HB:=jq (H.out.new wr.1.size rfl #[.string ⟨x.id.toArray⟩,.string ⟨x.inst.toArray⟩,.int .i64 x.acq,.int .i64 x.opn,.string ⟨x.q.toArray⟩,.string ⟨x.c.toArray⟩,.string ⟨x.u.toArray⟩] 50);have HM2:=jq (HM.out.alloc (.cells #[.string ⟨x.id.toArray⟩,.string ⟨x.inst.toArray⟩,.int .i64 x.acq,.int .i64 x.opn,.string ⟨x.q.toArray⟩,.string ⟨x.c.toArray⟩,.string ⟨x.u.toArray⟩] 50));have HC:=jq (HCK.out x (List.mem_of_getElem? HX.out));have HZ:=jq (HL.out x (List.mem_of_getElem? HX.out))
   have HDR:=jq (show Vl seen (x::ls.drop (k+1))=res by
    have hx:=HX.out;obtain⟨hk,rfl⟩:=List.getElem?_eq_some_iff.1 hx
    rw[<-List.drop_eq_getElem_cons hk];exact HQ.out)
   clear HQ;unfold Zat S at HC;go_upto_region 7 with (fail)
   generalize wr.alloc _=W1 at*;clear d0 d1 d2 d3 d4 d5 d6 HM;generalize hbb:wr.1.size=b1 at*;clear hbb;have c0:=HB.out.c 0 0 rfl rfl;have c1:=HB.out.c 0 1 rfl rfl;have c2:=HB.out.c 0 2 rfl rfl;have c3:=HB.out.c 0 3 rfl rfl;have c4:=HB.out.c 0 4 rfl rfl;have c5:=HB.out.c 0 5 rfl rfl;have c6:=HB.out.c 0 6 rfl rfl;go_wp2_with fail
   refine(HC.out _ HB.out.pw).mono ?_;rintro e W2 ⟨rfl,hb2⟩;replace HB:=jq (HB.out.here hb2);replace HM2:=jq (HM2.out.here hb2);clear c0 c1 c2 c3 c4 c5 c6 hb2;have c0:=HB.out.c 0 0 rfl rfl;have hlk:=HM2.out.look (t:=107) Tryz.underlying107 (s:=x.id) (by have:=HZ.out.id;unfold maxLen;omega);obtain⟨W3,hput,HM3,hg⟩:=HM2.out.put (t:=107) Tryz.underlying107 (by unfold maxLen;omega) (s:=x.id) (by have:=HZ.out.id;unfold maxLen;omega)
   have HK3:=jq (HB.out.bare.turn hg (by have:=HP.out;omega));have HM4:=jq HM3;clear HM3 hg;have HLC:=jq (show Vl seen (x::ls.drop (k+1))=if VD x≠0 then VD x else if x.id∈seen then 5 else Vl (x.id::seen) (ls.drop (k+1)) from rfl);rw[HDR.out] at HLC;clear HDR;generalize VD x=z at*
   by_cases hz:z=0
   ·have hz0:(z !=0)=false:=by simp[hz]
    rw[if_neg (by simpa using hz)] at HLC
    cases hin:decide (x.id∈seen) with
    |true=>
     rw[hin] at hlk;rw[if_pos (of_decide_eq_true hin)] at HLC;clear hin hz;go_wp2_with fail
     first|go_ret|skip
     rw[HPO.out,HLC.out];exact⟨rfl,HB.out.bl⟩
    |false=>
     rw[hin] at hlk;rw[if_neg (of_decide_eq_false hin)] at HLC;clear hin hz;go_wp2_with fail
     go_roundw
     case rel=>exact⟨k+1,x.id::seen,by omega,rfl,by go_num,HK3,HM4,HLC.out.symm⟩
     case measure=>simp[intOf];omega
   ·have hz0:(z !=0)=true:=by simp[hz]
    rw[if_pos hz] at HLC;clear hz;go_wp2_with fail
    first|go_ret|skip
    rw[HPO.out,HLC.out];exact⟨rfl,HB.out.bl⟩
  ·have HE:=jq (show res=0 by
    have:=HQ.out
    rw[List.drop_eq_nil_of_le (by have:=HNW.out;omega)] at this;exact this.symm)
   go_wp2_with fail
   first|go_ret|skip
   rw[HPO.out,HE.out];exact⟨rfl,H.out.bl⟩
end
end Go.Proofs.YtkddgeclncafoaaGreatDoor
