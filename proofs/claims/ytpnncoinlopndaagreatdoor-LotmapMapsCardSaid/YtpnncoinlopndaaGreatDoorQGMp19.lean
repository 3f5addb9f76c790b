/- . -/
import Derived.Test.YtpnncoinlopndaaGreatDoorQGMp14
import Derived.Test.YtpnncoinlopndaaGreatDoorQGMp16
import Derived.Test.YtpnncoinlopndaaGreatDoorQGMp18
set_option maxRecDepth 100000
set_option maxHeartbeats 16000000
namespace Go.Proofs.YtpnncoinlopndaaGreatDoor
open Go.Lib renaming hid→jq
open Go.RowKit Go.Shelf
section
attribute [local go_sem ↓] Go.wp_at_zero Go.wp_at_succ
theorem Zk6{ls:List Lot}{m:Mp}(h:¬(Xl ls=0/\JE m=0)):VO ls m=(Res.none,1):=by
 unfold VO;rw[if_pos]
 by_cases h1:Xl ls=0
 ·exact .inr (fun h2=>h ⟨h1,h2⟩)
 ·exact .inl h1
theorem ZhJ{ls:List Lot}{m:Mp}(h1:Xl ls=0)(h2:JE m=0){z:Lot}(hz:z∈Yl m (Qe (Qb ls m.inst) m) (Qb ls m.inst) (Qb ls m.inst).length)(hi:z.id∈ls.map (·.id)):VO ls m=(Res.none,5):=by
 unfold VO;rw[if_neg (show ¬(Xl ls≠0\/JE m≠0) from fun h=>h.elim (fun h=>h h1) (fun h=>h h2))];simp only;rw[if_pos];rw[List.any_eq_true];exact⟨z,hz,by simpa using hi⟩
theorem Zjq{ls:List Lot}{m:Mp}(h1:Xl ls=0)(h2:JE m=0)(hz:∀z∈Yl m (Qe (Qb ls m.inst) m) (Qb ls m.inst) (Qb ls m.inst).length,z.id ∉ ls.map (·.id)):
 VO ls m=if 1000<(Qn m (Qe (Qb ls m.inst) m).m 0 ls).length+(QZ m (Qe (Qb ls m.inst) m) (Qb ls m.inst)).length then(Res.none,4)
  else(⟨(QZ m (Qe (Qb ls m.inst) m) (Qb ls m.inst)).foldl XG (Qn m (Qe (Qb ls m.inst) m).m 0 ls),Xq m (Qe (Qb ls m.inst) m) (Qb ls m.inst),Yh m (Qe (Qb ls m.inst) m) (Qb ls m.inst)⟩,0):=by
 unfold VO;rw[if_neg (show ¬(Xl ls≠0\/JE m≠0) from fun h=>h.elim (fun h=>h h1) (fun h=>h h2))];simp only;rw[if_neg];rw[List.any_eq_true];rintro⟨z,hz',hin⟩;exact hz z hz' (by simpa using hin)
theorem Zmc{x:Plan}{old xs:List Lot}{N k:Nat}(hn:x.n.length=old.length)(hx:xs.length=QD x.n N)(hN:N=old.length)(hk:k<N)(h0:x.n.getD k 0≠0):QD x.n k<xs.length:=by
 have h1:=Jw x.n k (by omega);rw[if_neg h0] at h1;have h2:=Zi9 (n:=x.n) (show k+1<=N by omega);omega
structure MapC (ls:List Lot) (m:Mp) (old:List Lot) (x:Plan):Prop where
 ls1000:ls.length<=1000
 lens:x.n.length=old.length/\x.m.length=old.length/\x.f.length=old.length/\x.p.length=old.length
 sub:∀k W,Calls Tryz.prog 35 #[S (Qa (x.m.getD k 0)),S (Qa (x.f.getD k 0))] W (Qh (Qa (x.mv k)) W)
 add:∀k W,Calls Tryz.prog 36 #[S (Qa (x.rest k)),S (Qa (x.mv k))] W (Qh (Qa (x.rest k+x.mv k)) W)
 num:∀k W,k<=old.length->Calls Tryz.prog 37 #[S m.cause,.int .i64 ((QD x.n k:Int)+1)] W fun e w'=>e=.returned (S (QO m.cause (QD x.n k+1)))/\W=w'
 fst:∀(z:Lot) l W,Yl m x old old.length=z::l->Calls Tryz.prog 36 #[S z.c,S (Qa (x.rest old.length))] W (Qh (Qa (val z.c+x.rest old.length)) W)
 cost:∀(y:Lot) k W,y∈ls->Calls Tryz.prog 35 #[S y.c,S (Qa (x.m.getD k 0))] W (Qh (Qa (val y.c-x.m.getD k 0)) W)
 old1000:old.length<=1000
def ZdI:Code->List Code
 | .loop c=>[c]
 | .seq a b=>ZdI a++ZdI b
 | .block _ c=>ZdI c
 | .scope c=>ZdI c
 | .cond _ a b=>ZdI a++ZdI b
 |_=>[]
noncomputable def rmB(k:Nat):Code:=((Tryz.f9.body.map ZdI).getD []).getD k .skip
def Jh:List Value->Nat->Value
 |[],_=>.bool false
 |x::_,0=>x
 |_::l,n+1=>Jh l n
def ZcO(f:Nat->Value):Array Value:=List.toArray (f 0::f 1::f 2::f 3::f 4::f 5::f 6::f 7::f 8::f 9::f 10::f 11::f 12::f 13::f 14::f 15::f 16::f 17::f 18::f 19::f 20::f 21::f 22::f 23::f 24::f 25::f 26::f 27::f 28::f 29::f 30::f 31::f 32::f 33::f 34::f 35::f 36::f 37::f 38::f 39::f 40::f 41::f 42::f 43::f 44::f 45::f 46::f 47::f 48::f 49::f 50::f 51::f 52::f 53::f 54::f 55::f 56::f 57::f 58::f 59::f 60::f 61::f 62::f 63::f 64::f 65::f 66::f 67::f 68::f 69::f 70::f 71::f 72::f 73::f 74::f 75::f 76::f 77::f 78::f 79::f 80::f 81::f 82::f 83::f 84::f 85::f 86::f 87::f 88::f 89::f 90::f 91::f 92::f 93::f 94::f 95::f 96::f 97::f 98::f 99::f 100::f 101::f 102::f 103::f 104::f 105::f 106::f 107::f 108::f 109::f 110::f 111::f 112::f 113::f 114::f 115::f 116::f 117::f 118::f 119::f 120::f 121::f 122::f 123::f 124::f 125::f 126::f 127::f 128::f 129::f 130::f 131::f 132::f 133::f 134::f 135::f 136::f 137::f 138::f 139::f 140::f 141::f 142::f 143::f 144::f 145::f 146::f 147::f 148::f 149::f 150::f 151::f 152::f 153::f 154::f 155::f 156::f 157::f 158::f 159::f 160::f 161::f 162::f 163::f 164::f 165::f 166::f 167::f 168::f 169::f 170::f 171::f 172::f 173::f 174::f 175::f 176::f 177::f 178::f 179::f 180::f 181::f 182::f 183::f 184::f 185::f 186::f 187::f 188::f 189::f 190::f 191::f 192::f 193::f 194::f 195::f 196::f 197::f 198::f 199::f 200::f 201::f 202::f 203::f 204::f 205::f 206::f 207::f 208::f 209::f 210::f 211::f 212::f 213::f 214::f 215::f 216::f 217::f 218::f 219::f 220::f 221::f 222::f 223::f 224::f 225::f 226::f 227::f 228::f 229::f 230::f 231::f 232::f 233::f 234::f 235::f 236::f 237::f 238::f 239::f 240::f 241::f 242::f 243::f 244::f 245::f 246::f 247::f 248::f 249::f 250::f 251::f 252::f 253::f 254::f 255::f 256::f 257::f 258::f 259::f 260::f 261::f 262::f 263::f 264::f 265::f 266::f 267::f 268::f 269::f 270::f 271::f 272::f 273::f 274::f 275::f 276::f 277::f 278::f 279::f 280::f 281::f 282::f 283::f 284::f 285::f 286::f 287::f 288::f 289::f 290::f 291::f 292::f 293::f 294::f 295::f 296::f 297::f 298::f 299::f 300::f 301::f 302::f 303::f 304::f 305::[])
theorem Zmd(l:List Value):l=(List.range l.length).map (Jh l):=by
 induction l with
 |nil=>rfl
 |cons a l ih=>
  rw[List.length_cons,List.range_succ_eq_map,List.map_cons,List.map_map];exact congrArg (a:: ·) ih
theorem VJ(a:Array Value)(h:a.toList.length=306):a=ZcO (Jh a.toList):=by
 have e:=Zmd a.toList;rw[h] at e;have e2:a=((List.range 306).map (Jh a.toList)).toArray:=by rw[<-e]<;>rfl
 refine e2.trans ?_;generalize Jh a.toList=f;rfl
def PostX(Q:Exit->Act->World->Prop):Exit->Act->World->Prop
 | .exit k,a,w=>Q (.exit k) a w
 | .ret,a,w=>Q .ret a w
 |_,_,_=>False
theorem ZbP{P:Program}{c:Code}{R:Exit->Act->World->Prop}{a:Act}{w:World}(h:∀Q:Exit->Act->World->Prop,Hid (∀k a' w',R (.exit k) a' w'->PostX Q (.exit k) a' w')->Hid (∀a' w',R .ret a' w'->PostX Q .ret a' w')->c.wp P (PostX Q) a w):c.wp P R a w:=
 wp_mono (h R (jq fun _ _ _ h=>h) (jq fun _ _ h=>h)) fun e _ _ h=>by
  cases e<;>first|exact h|exact absurd h id
structure Fx (w w2:World) (A:Option Addr) (n c:Nat) (a:Array Value):Prop where
 len:a.toList.length=306
 s0:Jh a.toList 0=.slice A n c
 s3:Jh a.toList 3=.pointer (some ⟨w.1.size,0,none⟩)
 s4:Jh a.toList 4=.pointer (some ⟨w.1.size+1,0,none⟩)
 s6:Jh a.toList 6=.pointer (some ⟨w2.1.size,0,none⟩)
 s7:Jh a.toList 7=.pointer (some ⟨w2.1.size+1,0,none⟩)
structure MQ (w w2 W3:World) (ls old:List Lot) (m:Mp) (x:Plan) (N:Nat) (Ao An Am Af Ap:Option Addr) (co cn cm cf cp:Nat) (fp:Fr) (mb pb:Array Value):Prop where
 hk:Kp w [(w2.1.size+1,#[.slice none 0 0,.slice none 0 0,.slice none 0 0,.slice none 0 0],35),(w2.1.size,pb,73),(w.1.size+1,#[.slice none 0 0,.slice none 0 0,.slice none 0 0,.slice none 0 0],35),(w.1.size,mb,28)] W3
 hm:Mr w2.1.size N Ao An Am Af Ap old x W3
 hs2:W3.1.size=w2.1.size+2
 hc:MapC ls m old x
 hn:N=old.length
 e0:mb[0]?=some (.string ⟨m.cause.toArray⟩)
 e1:mb[1]?=some (.int .i64 m.day)
 e2:mb[2]?=some (.string ⟨m.inst.toArray⟩)
 e3:mb[3]?=some (.string ⟨m.other.toArray⟩)
 e10:mb[10]?=some (.bool m.keep)
 p0:pb[0]?=some (.slice Ao N co)
 p1:pb[1]?=some (.slice An N cn)
 p2:pb[2]?=some (.slice Am N cm)
 p3:pb[3]?=some (.slice Af N cf)
 p4:pb[4]?=some (.slice Ap N cp)
 p6:pb[6]?=some (.string ⟨fp.n.toArray⟩)
 p7:pb[7]?=some (.string ⟨fp.d.toArray⟩)
end
section
attribute [local go_sem ↓] Go.wp_at_zero Go.wp_at_succ
theorem ZnN(w w2 W3:World)(ls old:List Lot)(m:Mp)(x:Plan)(N:Nat)(Ao An Am Af Ap:Option Addr)(co cn cm cf cp:Nat)(fp:Fr)(mb pb:Array Value)(A:Option Addr)(n c:Nat)(H:MQ w w2 W3 ls old m x N Ao An Am Af Ap co cn cm cf cp fp mb pb)(a:Array Value)(hf:Fx w w2 A n c a)(h8:Jh a.toList 8=.slice none 0 0)(h9:Jh a.toList 9=.string ⟨#[]⟩)(h10:Jh a.toList 10=.int .i64 0):
 (Code.loop (rmB 0)).wp Tryz.prog (fun e a' wr=>∃t,a'=⟨t,[]⟩/\Fx w w2 A n c t/\∃A1 c1,e=.exit 0/\Jh t.toList 8=.slice A1 (Yl m x old N).length c1/\Jh t.toList 9=.string ⟨(Qa (x.rest N)).toArray⟩/\Hid (Own L7 7 54 wr W3.1.size (.slice A1 (Yl m x old N).length c1) (Yl m x old N))/\Hid (Below W3.1.size W3 wr)) ⟨a,[]⟩ W3:=by
 have HK:=jq H.hk;have HMC:=jq H.hc;have HNN:=jq H.hn;have HMR:=jq (fun V (h:Below W3.1.size W3 V)=>H.hm.step (h.mono (by have:=H.hs2;omega)));have EM0:=jq H.e0;have EM3:=jq H.e3;have EP0:=jq H.p0;have EP1:=jq H.p1;have EP2:=jq H.p2;have EP3:=jq H.p3;have hN1:N<=1000:=by have:=HMC.out.old1000;have:=HNN.out;omega
 clear H;rw[VJ a hf.len];unfold ZcO;rw[hf.s0,hf.s3,hf.s4,hf.s6,hf.s7,h8,h9,h10];clear hf h8 h9 h10;generalize Jh a.toList=fr;refine ZbP fun Q HX HY=> ?_
 conv=>arg 2;arg 1;whnf
 have c0:=HK.out.c 1 0 rfl EP0.out
 go_loopw [8,9,10,11] (fun s r j _ wr=>∃(k:Nat) (A1:Option Addr) (c1:Nat),k<=N/\j=.int .i64 k/\s=.slice A1 (Yl m x old k).length c1/\r=.string ⟨(Qa (x.rest k)).toArray⟩/\Hid (Own L7 7 54 wr W3.1.size (.slice A1 (Yl m x old k).length c1) (Yl m x old k))/\Hid (Below W3.1.size W3 wr)) (fun _ _ j _ _=>N-(intOf j).toNat)
 case atStart=>exact⟨0,none,0,Nat.zero_le _,rfl,rfl,rfl,Own.nil,Below.refl _ _⟩
 case round=>
  clear c0;obtain⟨k,A1,c1,hk,rfl,rfl,rfl,HO,HB⟩:=hrel
  have c0:=(HK.out.here HB.out).c 1 0 rfl EP0.out
  by_cases hlt:k<N
  ·obtain⟨bm,om,hAm,HCm⟩:=VV (HMR.out _ (Below.refl _ _)).m hlt
   obtain⟨bf,oof,hAf,HCf⟩:=VV (HMR.out _ (Below.refl _ _)).f hlt
   obtain⟨bn,on,hAn,HCn⟩:=VV (HMR.out _ (Below.refl _ _)).n hlt
   obtain⟨bo,oo,y,hAo,hy,HCo⟩:=Ziv (HMR.out _ (Below.refl _ _)).o hlt
   subst hAm;subst hAf;subst hAn;subst hAo
   have i1:(0:Int)<=(k:Int):=by omega
   have i2:(k:Int)<(N:Int):=by omega
   have HCM:=jq HCm;have HCF:=jq HCf;have HCN:=jq HCn;have HCO:=jq HCo;have HVV:=jq (fun V (h:Bz wr V)=>(show Below W3.1.size W3 V from HB.out.trans (h.mono HB.out.size)));have HSB:=jq (HMC.out.sub k);have HAD:=jq (HMC.out.add k);have HNU:=jq (fun W=>HMC.out.num k W (by have:=HNN.out;omega));have HLK:=jq (show(Yl m x old k).length=QD x.n k from ZbO m HMC.out.lens.1 k (by have:=HNN.out;omega));have HRS:=jq (Zb9 x k);have HSU:=jq (Zck m x old k);rw[hy] at HSU;have HCK:=jq (JM x.n k);clear hy HCm HCf HCn HCo;unfold Qh at HSB HAD
   try unfold S at HSB
   try unfold S at HAD
   try unfold S at HNU
   generalize hmv:Qa (x.mv k)=tmv at*;generalize Qa (x.m.getD k 0)=tmk at*;generalize Qa (x.f.getD k 0)=tfk at*;have HTMV:=jq hmv;clear hmv;go_upto_region 10 with (fail)
   clear c0
   go_cut [11] from 32 to 93 (fun cst wc=>cst=.string ⟨tmv.toArray⟩/\Hid (Bz wr wc))
   case first=>
    have hS:=jq (fun V (h:Bz wr V)=>(show V.cell? ⟨w2.1.size,2,none⟩=some (.slice (some ⟨bm,om,none⟩) N cm)/\V.cell? ⟨w2.1.size,3,none⟩=some (.slice (some ⟨bf,oof,none⟩) N cf)/\V.cell? ⟨bm,om+k,none⟩=some (.string ⟨tmk.toArray⟩)/\V.cell? ⟨bf,oof+k,none⟩=some (.string ⟨tfk.toArray⟩) from
     ⟨(HK.out.here (HVV.out V h)).c 1 2 rfl EP2.out,(HK.out.here (HVV.out V h)).c 1 3 rfl EP3.out,HCM.out V (HMR.out V (HVV.out V h)).m,HCF.out V (HMR.out V (HVV.out V h)).f⟩))
    go_region_held3 (fun w'=>w'.cell? ⟨w2.1.size,2,none⟩=some (.slice (some ⟨bm,om,none⟩) N cm)/\w'.cell? ⟨w2.1.size,3,none⟩=some (.slice (some ⟨bf,oof,none⟩) N cf)/\w'.cell? ⟨bm,om+k,none⟩=some (.string ⟨tmk.toArray⟩)/\w'.cell? ⟨bf,oof+k,none⟩=some (.string ⟨tfk.toArray⟩))
     (first|(exact hS.out _ (by repeat' (first|assumption|exact Bz.refl _|refine Bz.drew ?_|refine Bz.alloc ?_ _|refine Bz.set ?_ (by first|assumption|exact Nat.le_refl _|exact Bz.size (by assumption)) _ _)))|go_keep)
     (first|(go_at_call 35;refine(HSB.out _).mono ?_;rintro e v1 ⟨rfl,hb1⟩;have hz1:Bz wr v1:=Bz.call (by repeat' (first|assumption|exact Bz.refl _|refine Bz.drew ?_|refine Bz.alloc ?_ _|refine Bz.set ?_ (by first|assumption|exact Nat.le_refl _|exact Bz.size (by assumption)) _ _)) hb1))
    all_goals
     go_wp2_with fail
     go_meet
     exact⟨rfl,hz1⟩
   case rest=>
   obtain⟨rfl,HZ⟩:=hcut
   have c1_:=(HK.out.here (HVV.out _ HZ.out)).c 1 1 rfl EP1.out;have cn:=HCN.out _ (HMR.out _ (HVV.out _ HZ.out)).n
   by_cases hn0:x.n.getD k 0=0
   ·have hp1:(Qa (x.n.getD k 0)==[])=true:=by rw[XB];exact decide_eq_true hn0
    have hp2:(Qa (x.n.getD k 0)).isEmpty=true:=by rw[XQ];exact hp1
    have HS1:=jq (show Yl m x old (k+1)=Yl m x old k by rw[HSU.out];simp only[if_pos hn0,List.append_nil]);have HR1:=jq (show x.rest (k+1)=x.rest k+x.mv k by rw[HRS.out,if_pos hn0]);generalize Qa (x.n.getD k 0)=tn at*;clear hn0 HSU HRS;go_wp2_with fail
    refine(HAD.out _).mono ?_;rintro e w5 ⟨rfl,hb5⟩;have HZ5:=jq (HZ.out.call hb5);clear c1_ cn hb5;go_wp2_with fail
    go_roundw
    case rel=>exact⟨k+1,A1,c1,by omega,by go_num,by rw[HS1.out],by rw[HR1.out],(show Own _ _ _ _ _ _ _ by rw[HS1.out];exact HO.out.below HZ5.out),HVV.out _ HZ5.out⟩
    case measure=>simp[intOf];omega
   ·have hp1:(Qa (x.n.getD k 0)==[])=false:=by rw[XB];exact decide_eq_false hn0
    have hp2:(Qa (x.n.getD k 0)).isEmpty=false:=by rw[XQ];exact hp1
    obtain⟨z,hz⟩:∃z:Lot,z=mk0 m x k y:=⟨_,rfl⟩
    have HS1:=jq (show Yl m x old (k+1)=Yl m x old k++[z] by rw[HSU.out,hz];simp only[if_neg hn0]);have HR1:=jq (show x.rest (k+1)=x.rest k by rw[HRS.out,if_neg hn0,Int.add_zero]);obtain⟨nid,hnid⟩:∃s,s=QO m.cause (QD x.n k+1):=⟨_,rfl⟩
    rw[<-hnid] at HNU;have HZC:=jq (show Xk z=#[.string ⟨nid.toArray⟩,.string ⟨m.other.toArray⟩,.int .i64 y.acq,.int .i64 y.opn,.string ⟨(Qa (x.n.getD k 0)).toArray⟩,.string ⟨tmv.toArray⟩,.string ⟨(Qa (x.n.getD k 0)).toArray⟩] by rw[hz,hnid,<-HTMV.out];rfl);clear hz hnid;rw[<-HLK.out] at HNU HCK;have hlk:(Yl m x old k).length<=1000:=by have:=HCK.out;have:=HMC.out.old1000;have:=HNN.out;omega
    generalize Qa (x.n.getD k 0)=tn at*;generalize Yl m x old k=xs at*;have hwr:IntKind.i64.wrap ((xs.length:Int)+1)=(xs.length:Int)+1:=IntWalk.i64_in _ (by omega);clear hn0 HSU HRS;have HLX:=jq hlk;clear hlk;go_upto_region 13 with (fail)
    clear c1_ cn
    have hS:=jq (fun V (h:Below W3.1.size W3 V)=>(show V.cell? ⟨w.1.size,0,none⟩=some (.string ⟨m.cause.toArray⟩)/\V.cell? ⟨w.1.size,3,none⟩=some (.string ⟨m.other.toArray⟩)/\V.cell? ⟨w2.1.size,0,none⟩=some (.slice (some ⟨bo,oo,none⟩) N co)/\V.cell? ⟨w2.1.size,1,none⟩=some (.slice (some ⟨bn,on,none⟩) N cn)/\V.cell? ⟨bo,oo+k*7+2,none⟩=some (.int .i64 y.acq)/\V.cell? ⟨bo,oo+k*7+3,none⟩=some (.int .i64 y.opn)/\V.cell? ⟨bn,on+k,none⟩=some (.string ⟨tn.toArray⟩) from
     ⟨(HK.out.here h).c 3 0 rfl EM0.out,(HK.out.here h).c 3 3 rfl EM3.out,(HK.out.here h).c 1 0 rfl EP0.out,(HK.out.here h).c 1 1 rfl EP1.out,(HCO.out V (HMR.out V h).o).2.2.1,(HCO.out V (HMR.out V h).o).2.2.2.1,HCN.out V (HMR.out V h).n⟩))
    have HOW:=jq (show Own L7 7 54 (wc.alloc (.cells #[.string ⟨nid.toArray⟩,.string ⟨m.other.toArray⟩,.int .i64 y.acq,.int .i64 y.opn,.string ⟨tn.toArray⟩,.string ⟨tmv.toArray⟩,.string ⟨tn.toArray⟩] 54)).drew W3.1.size (.slice A1 xs.length c1) xs from((HO.out.below HZ.out).alloc _).drew)
    have HLI:=jq (show QU (wc.alloc (.cells #[.string ⟨nid.toArray⟩,.string ⟨m.other.toArray⟩,.int .i64 y.acq,.int .i64 y.opn,.string ⟨tn.toArray⟩,.string ⟨tmv.toArray⟩,.string ⟨tn.toArray⟩] 54)).drew (wc.1.size+1) (some ⟨wc.1.size,0,none⟩) 1 [z] by
     have h:=(Sl.lit (enc:=L7) (k:=7) wc (Xk z) 54 [z] (by rw[<-Jy];simp) Ql).drew;rw[HZC.out] at h;exact h)
    have HBA:=jq (show Below W3.1.size W3 (wc.alloc (.cells #[.string ⟨nid.toArray⟩,.string ⟨m.other.toArray⟩,.int .i64 y.acq,.int .i64 y.opn,.string ⟨tn.toArray⟩,.string ⟨tmv.toArray⟩,.string ⟨tn.toArray⟩] 54)).drew from((HVV.out _ HZ.out).alloc (HVV.out _ HZ.out).size _).drew)
    go_region_held3 (fun X=>X.cell? ⟨w.1.size,0,none⟩=some (.string ⟨m.cause.toArray⟩)/\X.cell? ⟨w.1.size,3,none⟩=some (.string ⟨m.other.toArray⟩)/\X.cell? ⟨w2.1.size,0,none⟩=some (.slice (some ⟨bo,oo,none⟩) N co)/\X.cell? ⟨w2.1.size,1,none⟩=some (.slice (some ⟨bn,on,none⟩) N cn)/\X.cell? ⟨bo,oo+k*7+2,none⟩=some (.int .i64 y.acq)/\X.cell? ⟨bo,oo+k*7+3,none⟩=some (.int .i64 y.opn)/\X.cell? ⟨bn,on+k,none⟩=some (.string ⟨tn.toArray⟩))
     (first|with_reducible exact k6|(exact hS.out _ (HVV.out _ (HZ.out.call (by repeat' (first|assumption|exact Bz.refl _|refine Bz.drew ?_|refine Bz.alloc ?_ _|refine Bz.set ?_ (by first|assumption|exact Nat.le_refl _|exact Bz.size (by assumption)) _ _)))))|go_keep)
     (first
       |(go_at_call 37;refine(HNU.out _).mono ?_;rintro e v1 ⟨rfl,rfl⟩)
       |(refine XT _ (by rfl) (.tmp 59) (.tmp 92) _ (by rfl) Xg Ql Xh (.slice A1 xs.length c1) xs (by rfl) HOW.out _ _ 1 1 [z] (by rfl) HLI.out (by have:=HLX.out;omega) HBA.out.size ?_
         intro A4 c4 w6 ho4 hg4 _;have hb6:Below W3.1.size W3 w6:=Qm HBA.out hg4 HBA.out.size (fun g hg=>by obtain⟨A',c',hv,_,_,_,h4⟩:=HOW.out.form;exact(h4 g hg).2.1);have k6:=hS.out w6 hb6))
    all_goals
     go_wp2_with fail
     go_roundw
     case rel=>exact⟨k+1,A4,c4,by omega,by go_num,by rw[HS1.out,List.length_append];rfl,by rw[HR1.out],(show Own _ _ _ _ _ _ _ by rw[HS1.out,List.length_append];exact ho4),hb6⟩
     case measure=>simp[intOf];omega
  ·obtain rfl:N=k:=by omega
   go_wp2_with fail
   exact HX.out _ _ _ ⟨_,rfl,⟨rfl,rfl,rfl,rfl,rfl,rfl⟩,A1,c1,rfl,rfl,rfl,HO,HB⟩
end
section
attribute [local go_sem ↓] Go.wp_at_zero Go.wp_at_succ
theorem ZnO(w w2 W3:World)(ls old:List Lot)(m:Mp)(x:Plan)(N:Nat)(Ao An Am Af Ap:Option Addr)(co cn cm cf cp:Nat)(fp:Fr)(mb pb:Array Value)(A:Option Addr)(n c:Nat)(H:MQ w w2 W3 ls old m x N Ao An Am Af Ap co cn cm cf cp fp mb pb)(hs:QU w w.1.size A n ls)(hn:n<=1000)(xs:List Lot)(A1:Option Addr)(c1:Nat)(W4:World)(HO4:Hid (Own L7 7 54 W4 W3.1.size (.slice A1 xs.length c1) xs))(HB4:Hid (Below W3.1.size W3 W4))(hxl:xs.length<=1000)(v9:Value)(a:Array Value)(hf:Fx w w2 A n c a)(h8:Jh a.toList 8=.slice A1 xs.length c1)(h9:Jh a.toList 9=v9)(h12:Jh a.toList 12=.int .i64 0):
 (Code.loop (rmB 1)).wp Tryz.prog (fun e a' wr=>∃t,a'=⟨t,[]⟩/\Fx w w2 A n c t/\((e=.exit 2/\Jh t.toList 8=.slice A1 xs.length c1/\Jh t.toList 9=v9/\Hid (∀z∈xs,z.id ∉ ls.map (·.id))/\Hid (Bz W4 wr))\/(e=.ret/\Jh t.toList 5=.int .i64 5/\(∃z∈xs,z.id∈ls.map (·.id))/\Hid (Kp w [(w2.1.size+1,#[.slice none 0 0,.slice none 0 0,.slice none 0 0,.slice none 0 0],35),(w2.1.size,pb,73),(w.1.size+1,#[.slice none 0 0,.slice none 0 0,.slice none 0 0,.slice none 0 0],35),(w.1.size,mb,28)] wr)))) ⟨a,[]⟩ W4:=by
 have HK:=jq H.hk;have HMC:=jq H.hc;have HNN:=jq H.hn;have HMR:=jq (fun V (h:Below W3.1.size W3 V)=>H.hm.step (h.mono (by have:=H.hs2;omega)));have EP0:=jq H.p0;have hN1:N<=1000:=by have:=HMC.out.old1000;have:=HNN.out;omega
 clear H;have HFD:=jq (fun id W (hb:Below w.1.size w W)=>Zbd A n c ls id W (hs.here hb) (by omega));clear hs hn;rw[VJ a hf.len];unfold ZcO;rw[hf.s0,hf.s3,hf.s4,hf.s6,hf.s7,h8,h9,h12];clear hf h8 h9 h12;generalize Jh a.toList=fr;refine ZbP fun Q HX HY=> ?_
 conv=>arg 2;arg 1;whnf
 have c0:=HK.out.c 1 0 rfl EP0.out
 go_loopw [12,13,14,100] (fun i _ _ _ wr=>∃j:Nat,j<=xs.length/\i=.int .i64 j/\Hid (∀z∈xs.take j,z.id ∉ ls.map (·.id))/\Hid (Bz W4 wr)) (fun i _ _ _ _=>xs.length-(intOf i).toNat)
 case atStart=>exact⟨0,Nat.zero_le _,rfl,(show ∀z∈xs.take 0,_ from fun z hz=>by simp at hz),Bz.refl _⟩
 case round=>
  clear c0;obtain⟨j,hj,rfl,HF,HZ⟩:=hrel
  by_cases hlt:j<xs.length
  ·obtain⟨b,off,z,rfl,hb,hz,d0,d1,d2,d3,d4,d5,d6⟩:=((HO4.out.below HZ.out).sl Ql).lot7 hlt
   have HZJ:=jq hz;have HFJ:=jq (HFD.out z.id wr ((HK.out.here (HB4.out)).here HZ.out).bl);clear hz hb;generalize max (ZbK ls z.id) 0=fi at*
   try unfold S at HFJ
   go_wp2_with fail
   refine HFJ.out.mono ?_;rintro e w5 ⟨rfl,hb5⟩;have HZ5:=jq (HZ.out.call hb5);clear d0 d1 d2 d3 d4 d5 d6 hb5
   by_cases hin:z.id∈ls.map (·.id)
   ·have HR:=jq (show ∃z∈xs,z.id∈ls.map (·.id) from⟨z,List.mem_of_getElem? HZJ.out,hin⟩);rw[decide_eq_true hin];clear hin;have HK5:=jq ((HK.out.here HB4.out).here HZ5.out);have c0:=HK5.out.c 2 0 rfl rfl;have c1:=HK5.out.c 2 1 rfl rfl;have c2:=HK5.out.c 2 2 rfl rfl;have c3:=HK5.out.c 2 3 rfl rfl;have f0:=HK5.out.f 2 0 rfl;have f1:=HK5.out.f 2 1 rfl;have f2:=HK5.out.f 2 2 rfl;have f3:=HK5.out.f 2 3 rfl;go_wp2_with fail
    have HE:=jq ((((HK5.out.set 2 0 rfl (.slice none 0 0)).set 2 1 rfl (.slice none 0 0)).set 2 2 rfl (.slice none 0 0)).set 2 3 rfl (.slice none 0 0));exact HY.out _ _ ⟨_,rfl,⟨rfl,rfl,rfl,rfl,rfl,rfl⟩,.inr ⟨by trivial,rfl,HR.out,HE.out⟩⟩
   ·rw[decide_eq_false hin]
    have HF2:=jq (show ∀y∈xs.take (j+1),y.id ∉ ls.map (·.id) by
     intro y hy;obtain⟨h1,h2⟩:=List.getElem?_eq_some_iff.1 HZJ.out
     rw[List.take_succ_eq_append_getElem h1,h2] at hy
     rcases List.mem_append.1 hy with hy|hy
     ·exact HF.out y hy
     ·rw[List.mem_singleton] at hy;rw[hy];exact hin)
    clear hin;go_wp2_with fail
    go_roundw
    case rel=>exact⟨j+1,by omega,by go_num,HF2.out,HZ5.out⟩
    case measure=>simp[intOf];omega
  ·obtain rfl:j=xs.length:=by omega
   have HFA:=jq (show ∀z∈xs,z.id ∉ ls.map (·.id) by have h:=HF.out;rw[List.take_of_length_le (Nat.le_refl _)] at h;exact h);go_wp2_with fail
   exact HX.out _ _ _ ⟨_,rfl,⟨rfl,rfl,rfl,rfl,rfl,rfl⟩,.inl ⟨rfl,rfl,rfl,HFA,HZ⟩⟩
end
section
attribute [local go_sem ↓] Go.wp_at_zero Go.wp_at_succ
theorem ZnP(w w2 W3:World)(ls old:List Lot)(m:Mp)(x:Plan)(N:Nat)(Ao An Am Af Ap:Option Addr)(co cn cm cf cp:Nat)(fp:Fr)(mb pb:Array Value)(A:Option Addr)(n c:Nat)(H:MQ w w2 W3 ls old m x N Ao An Am Af Ap co cn cm cf cp fp mb pb)(hs:QU w w.1.size A n ls)(hn:n<=1000)(HNI:Hid (N=ls.countP (fun z=>decide (z.inst=m.inst))))(xs made:List Lot)(A1:Option Addr)(c1:Nat)(W6:World)(HR6:Hid (Rs w w2.1.size W3.1.size W6.1.size N xs.length c1 A1 Ao An Am Af Ap old x made [(w2.1.size+1,#[.slice none 0 0,.slice none 0 0,.slice none 0 0,.slice none 0 0],35),(w2.1.size,pb,73),(w.1.size+1,#[.slice none 0 0,.slice none 0 0,.slice none 0 0,.slice none 0 0],35),(w.1.size,mb,28)] W6))(v8:Value)(a:Array Value)(hf:Fx w w2 A n c a)(h8:Jh a.toList 8=v8)(h15:Jh a.toList 15=.int .i64 0)(h16:Jh a.toList 16=.int .i64 0):
 (Code.loop (rmB 2)).wp Tryz.prog (fun e a' wr=>∃t,a'=⟨t,[]⟩/\Fx w w2 A n c t/\∃A2 c2,e=.exit 4/\Jh t.toList 8=v8/\Hid (Rs w w2.1.size W3.1.size W6.1.size N xs.length c1 A1 Ao An Am Af Ap old x made [(w2.1.size+1,#[.slice A2 (Qn m x.m 0 ls).length c2,.slice none 0 0,.slice none 0 0,.slice none 0 0],35),(w2.1.size,pb,73),(w.1.size+1,#[.slice none 0 0,.slice none 0 0,.slice none 0 0,.slice none 0 0],35),(w.1.size,mb,28)] wr)/\Hid (Own L7 7 54 wr W6.1.size (.slice A2 (Qn m x.m 0 ls).length c2) (Qn m x.m 0 ls))) ⟨a,[]⟩ W6:=by
 have HMC:=jq H.hc;have HNN:=jq H.hn;have HMR:=jq (fun V (h:Below W3.1.size W3 V)=>H.hm.step (h.mono (by have:=H.hs2;omega)));have EM2:=jq H.e2;have EM10:=jq H.e10;have EP2:=jq H.p2;have hN1:N<=1000:=by have:=HMC.out.old1000;have:=HNN.out;omega
 clear H;have HLS:=jq hs;have HLEN:=jq hn;have HLN:=jq hs.1;clear hs hn;rw[VJ a hf.len];unfold ZcO;rw[hf.s0,hf.s3,hf.s4,hf.s6,hf.s7,h8,h15,h16];clear hf h8 h15 h16;generalize Jh a.toList=fr;refine ZbP fun Q HX HY=> ?_
 conv=>arg 2;arg 1;whnf
 go_loopw [15,16,17] (fun i a _ wr=>∃(j at_:Nat) (A2:Option Addr) (c2:Nat),j<=n/\i=.int .i64 j/\a=.int .i64 at_/\Hid (at_=(ls.take j).countP (fun z=>decide (z.inst=m.inst)))/\Hid (Rs w w2.1.size W3.1.size W6.1.size N xs.length c1 A1 Ao An Am Af Ap old x made [(w2.1.size+1,#[.slice A2 (Qn m x.m 0 (ls.take j)).length c2,.slice none 0 0,.slice none 0 0,.slice none 0 0],35),(w2.1.size,pb,73),(w.1.size+1,#[.slice none 0 0,.slice none 0 0,.slice none 0 0,.slice none 0 0],35),(w.1.size,mb,28)] wr)/\Hid (Own L7 7 54 wr W6.1.size (.slice A2 (Qn m x.m 0 (ls.take j)).length c2) (Qn m x.m 0 (ls.take j)))) (fun i _ _ _=>n-(intOf i).toNat)
 case atStart=>exact⟨0,0,none,0,Nat.zero_le _,rfl,rfl,(show _=_ from rfl),HR6,Own.nil⟩
 case round=>
  obtain⟨j,at_,A2,c2,hj,rfl,rfl,HAT,HR,HL⟩:=hrel
  have hn1:=HLEN.out
  by_cases hlt:j<n
  ·obtain⟨b,off,y,hAe,hb,hy,d0,d1,d2,d3,d4,d5,d6⟩:=(HLS.out.below HR.out.k.bl).lot7 hlt
   subst hAe
   have HTK:=jq (show ls.take (j+1)=ls.take j++[y] by
    obtain⟨h1,h2⟩:=List.getElem?_eq_some_iff.1 hy
    rw[List.take_succ_eq_append_getElem h1,h2])
   have HKS:=jq (Zdg m x.m 0 (ls.take j) y);rw[<-HTK.out] at HKS;have HYI:=jq hy;have HKE:=jq (show(Qn m x.m 0 (ls.take j)).length<=1000 from Nat.le_trans (Jz m x.m 0 (ls.take j)) (by rw[List.length_take];have:=HLEN.out;omega));clear hy hb;have e2:=HR.out.k.c 3 2 rfl EM2.out;have e10:=HR.out.k.c 3 10 rfl EM10.out;have hpl:w.1.size<wr.1.size:=HR.out.k.lt 3 rfl;have hpn:w.1.size≠wr.1.size:=by omega
   have HA1:=jq (HR.out.alloc (.cells #[.string ⟨y.id.toArray⟩,.string ⟨y.inst.toArray⟩,.int .i64 y.acq,.int .i64 y.opn,.string ⟨y.q.toArray⟩,.string ⟨y.c.toArray⟩,.string ⟨y.u.toArray⟩] 54));have HO1:=jq (HL.out.alloc (.cells #[.string ⟨y.id.toArray⟩,.string ⟨y.inst.toArray⟩,.int .i64 y.acq,.int .i64 y.opn,.string ⟨y.q.toArray⟩,.string ⟨y.c.toArray⟩,.string ⟨y.u.toArray⟩] 54));have HYB:=jq (show BlkB (wr.alloc (.cells #[.string ⟨y.id.toArray⟩,.string ⟨y.inst.toArray⟩,.int .i64 y.acq,.int .i64 y.opn,.string ⟨y.q.toArray⟩,.string ⟨y.c.toArray⟩,.string ⟨y.u.toArray⟩] 54)) wr.1.size #[.string ⟨y.id.toArray⟩,.string ⟨y.inst.toArray⟩,.int .i64 y.acq,.int .i64 y.opn,.string ⟨y.q.toArray⟩,.string ⟨y.c.toArray⟩,.string ⟨y.u.toArray⟩] 54 from heap_alloc_new wr _);have HSZ:=jq (show W6.1.size<=wr.1.size from HR.out.s)
   by_cases hi:y.inst=m.inst
   ·have hi2:(y.inst==m.inst)=true:=by simp[hi]
    obtain⟨z,hzd⟩:∃z:Lot,z={y with c:=Qa (val y.c-x.m.getD at_ 0)}:=⟨_,rfl⟩
    have HCP:=jq (show at_+1=(ls.take (j+1)).countP (fun z=>decide (z.inst=m.inst)) by rw[HTK.out,List.countP_append,HAT.out];simp[hi])
    have hlo:at_<N:=by
     have h1:(ls.take (j+1)).countP (fun z=>decide (z.inst=m.inst))<=ls.countP (fun z=>decide (z.inst=m.inst)):=(List.take_sublist _ _).countP_le;rw[<-HCP.out,<-HNI.out] at h1;omega
    have HK2:=jq (show Qn m x.m 0 (ls.take (j+1))=if m.keep=true then Qn m x.m 0 (ls.take j)++[z] else Qn m x.m 0 (ls.take j) by
     rw[HKS.out,hzd,HAT.out]
     by_cases hk:m.keep=true<;>simp[Qn,hi,hk])
    have i1:(0:Int)<=(at_:Int):=by omega
    have i2:(at_:Int)<(N:Int):=by omega
    obtain⟨bm,om,hAm,HCm⟩:=VV HR.out.m.m hlo
    have HAM:=jq hAm;have HCM:=jq HCm;have HSB:=jq (HMC.out.cost y at_ · (List.mem_of_getElem? HYI.out));have HZ1:=jq (show Xk z=#[.string ⟨y.id.toArray⟩,.string ⟨y.inst.toArray⟩,.int .i64 y.acq,.int .i64 y.opn,.string ⟨y.q.toArray⟩,.string ⟨z.c.toArray⟩,.string ⟨y.u.toArray⟩] by rw[hzd];rfl);have hzc:Qa (val y.c-x.m.getD at_ 0)=z.c:=by rw[hzd]
    rw[hzc] at HSB;unfold Qh at HSB
    try unfold S at HSB
    generalize Qa (x.m.getD at_ 0)=tmk at*;clear hi HKS HTK HAT HCm hzd hzc hlo hAm;have HBW:=jq ((Below.refl wr.1.size wr).alloc (Nat.le_refl _) (.cells #[.string ⟨y.id.toArray⟩,.string ⟨y.inst.toArray⟩,.int .i64 y.acq,.int .i64 y.opn,.string ⟨y.q.toArray⟩,.string ⟨y.c.toArray⟩,.string ⟨y.u.toArray⟩] 54));go_upto_region 27 with (fail)
    clear d0 d1 d2 d3 d4 d5 d6 e2;generalize wr.alloc _=Wy at*;have HLT:=jq (show wr.1.size<Wy.1.size from HYB.out.lt)
    go_cut [] from 124 to 158 (fun wc=>Hid (BlkB wc wr.1.size (Xk z) 54)/\Hid (Rs w w2.1.size W3.1.size W6.1.size N xs.length c1 A1 Ao An Am Af Ap old x made [(w2.1.size+1,#[.slice A2 (Qn m x.m 0 (ls.take j)).length c2,.slice none 0 0,.slice none 0 0,.slice none 0 0],35),(w2.1.size,pb,73),(w.1.size+1,#[.slice none 0 0,.slice none 0 0,.slice none 0 0,.slice none 0 0],35),(w.1.size,mb,28)] wc)/\Hid (Own L7 7 54 wc W6.1.size (.slice A2 (Qn m x.m 0 (ls.take j)).length c2) (Qn m x.m 0 (ls.take j))))
    case first=>
     have hS:=jq (fun V (h:Rs w w2.1.size W3.1.size W6.1.size N xs.length c1 A1 Ao An Am Af Ap old x made [(w2.1.size+1,#[.slice A2 (Qn m x.m 0 (ls.take j)).length c2,.slice none 0 0,.slice none 0 0,.slice none 0 0],35),(w2.1.size,pb,73),(w.1.size+1,#[.slice none 0 0,.slice none 0 0,.slice none 0 0,.slice none 0 0],35),(w.1.size,mb,28)] V)=>(show V.cell? ⟨w2.1.size,2,none⟩=some (.slice (some ⟨bm,om,none⟩) N cm)/\V.cell? ⟨bm,om+at_,none⟩=some (.string ⟨tmk.toArray⟩) from⟨by rw[<-HAM.out];exact h.k.c 1 2 rfl EP2.out,HCM.out V h.m.m⟩));obtain⟨y1,y2⟩:=hS.out _ HA1.out
     have y5:Wy.cell? ⟨wr.1.size,5,none⟩=some (.string ⟨y.c.toArray⟩):=HYB.out.cell 5 rfl
     have HOB:=jq (fun(X:World) (hb:Below Wy.1.size Wy X) u=>(show Hid (Rs w w2.1.size W3.1.size W6.1.size N xs.length c1 A1 Ao An Am Af Ap old x made [(w2.1.size+1,#[.slice A2 (Qn m x.m 0 (ls.take j)).length c2,.slice none 0 0,.slice none 0 0,.slice none 0 0],35),(w2.1.size,pb,73),(w.1.size+1,#[.slice none 0 0,.slice none 0 0,.slice none 0 0,.slice none 0 0],35),(w.1.size,mb,28)] (X.setCell ⟨wr.1.size,5,none⟩ u))/\Hid (Own L7 7 54 (X.setCell ⟨wr.1.size,5,none⟩ u) W6.1.size (.slice A2 (Qn m x.m 0 (ls.take j)).length c2) (Qn m x.m 0 (ls.take j))) from
      have hb2:Below wr.1.size wr (X.setCell ⟨wr.1.size,5,none⟩ u):=(HBW.out.trans (hb.mono (Nat.le_of_lt HLT.out))).setCell (Nat.le_refl _) u
      ⟨HR.out.below hb2,HL.out.below hb2⟩))
     go_region_with
      (go_at_call 35;refine(HSB.out _).mono ?_;rintro e w7 ⟨rfl,hb7⟩;have hg1:Below Wy.1.size Wy w7:=(Below.refl _ Wy).drew.trans hb7;have hq1:BlkB w7 wr.1.size #[.string ⟨y.id.toArray⟩,.string ⟨y.inst.toArray⟩,.int .i64 y.acq,.int .i64 y.opn,.string ⟨y.q.toArray⟩,.string ⟨y.c.toArray⟩,.string ⟨y.u.toArray⟩] 54:=HYB.out.here hg1;have z5:=hq1.cell 5 rfl;have f5:=hq1.frozen 5;have k4:=(fun(u:Value)=>hS.out _ (HOB.out _ hg1 u).1.out))
     all_goals
      go_wp2_with fail
      go_meet
      refine⟨(show BlkB _ _ _ _ from ?_),(HOB.out _ hg1 _).1,(HOB.out _ hg1 _).2⟩;rw[HZ1.out];have h:=hq1.set 5 (.string ⟨z.c.toArray⟩);simpa only[List.setIfInBounds_toArray,List.set_cons_zero,List.set_cons_succ] using h
    case rest=>
    obtain⟨HZB,HA1,HO1⟩:=hcut
    clear HR HL HSB HCM HYB HBW;have e10:=HA1.out.k.c 3 10 rfl EM10.out
    cases hkp:m.keep with
    |false=>
     rw[hkp] at e10 HK2;simp only[Bool.false_eq_true,if_false] at HK2;go_wp2_with fail
     go_roundw
     case rel=>exact⟨j+1,at_+1,A2,c2,by omega,by go_num,by go_num,HCP.out,(show Rs w w2.1.size W3.1.size W6.1.size N xs.length c1 A1 Ao An Am Af Ap old x made _ _ by rw[HK2.out];exact HA1.out),(show Own _ _ _ _ _ _ _ by rw[HK2.out];exact HO1.out)⟩
     case measure=>simp[intOf];omega
    |true=>
     rw[hkp] at e10 HK2;simp only[if_true] at HK2;go_upto_region 30 with (fail)
     have hzb:BlkB wc wr.1.size #[.string ⟨z.id.toArray⟩,.string ⟨z.inst.toArray⟩,.int .i64 z.acq,.int .i64 z.opn,.string ⟨z.q.toArray⟩,.string ⟨z.c.toArray⟩,.string ⟨z.u.toArray⟩] 54:=HZB.out;obtain⟨g0,g1,g2,g3,g4,g5,g6⟩:=s7b hzb
     have q0:=HA1.out.k.c 0 0 rfl rfl;have HA2:=jq (HA1.out.alloc (.cells #[.string ⟨z.id.toArray⟩,.string ⟨z.inst.toArray⟩,.int .i64 z.acq,.int .i64 z.opn,.string ⟨z.q.toArray⟩,.string ⟨z.c.toArray⟩,.string ⟨z.u.toArray⟩] 54));have HO2:=jq (HO1.out.alloc (.cells #[.string ⟨z.id.toArray⟩,.string ⟨z.inst.toArray⟩,.int .i64 z.acq,.int .i64 z.opn,.string ⟨z.q.toArray⟩,.string ⟨z.c.toArray⟩,.string ⟨z.u.toArray⟩] 54));have HL1:=jq (Zij (y:=z) (show BlkB (wc.alloc (.cells #[.string ⟨z.id.toArray⟩,.string ⟨z.inst.toArray⟩,.int .i64 z.acq,.int .i64 z.opn,.string ⟨z.q.toArray⟩,.string ⟨z.c.toArray⟩,.string ⟨z.u.toArray⟩] 54)) wc.1.size (Xk z) 54 from heap_alloc_new wc _));generalize hkl:Qn m x.m 0 (ls.take j)=kl at*;clear hkl;have hq7:w2.1.size+1<wc.1.size:=HA1.out.k.lt 0 rfl
     go_wp2_with (at_builtin;refine Qt _ rfl (.tmp 154) (.tmp 156) _ rfl Xg Ql Xh (base:=W6.1.size) (.slice A2 _ c2) kl rfl HO2.out _ _ 1 1 [z] rfl HL1.out (by have:=HKE.out;omega) HA2.out.s ?_
                  intro A3 c3 w7 ho7 hg7 _;have HA3:=jq (HA2.out.app hg7 (Zfi HO2.out (Nat.le_refl _)));have f0:=HA3.out.k.f 0 0 rfl;have r0:=HA3.out.k.c 0 0 rfl rfl)
     clear q0 f0 r0
     go_roundw
     case rel=>
      have hl:(Qn m x.m 0 (ls.take (j+1))).length=kl.length+1:=by rw[HK2.out];simp
      exact⟨j+1,at_+1,A3,c3,by omega,by go_num,by go_num,HCP.out,(show Rs w w2.1.size W3.1.size W6.1.size N xs.length c1 A1 Ao An Am Af Ap old x made _ _ by rw[hl];exact HA3.out.set (i:=0) rfl (by decide) (Nat.le_succ _) 0 _),(show Own _ _ _ _ _ _ _ by rw[hl,HK2.out];exact ho7.farB (HA3.out.k.at_ 0 rfl) (by decide) 0 _)⟩
     case measure=>simp[intOf];omega
   ·have hi2:(y.inst==m.inst)=false:=by simp[hi]
    have HK2:=jq (show Qn m x.m 0 (ls.take (j+1))=Qn m x.m 0 (ls.take j)++[y] by rw[HKS.out];simp[Qn,hi]);have HCP:=jq (show at_=(ls.take (j+1)).countP (fun z=>decide (z.inst=m.inst)) by rw[HTK.out,List.countP_append,HAT.out];simp[hi]);clear hi HKS HTK HAT;go_upto_region 30 with (fail)
    clear d0 d1 d2 d3 d4 d5 d6 e2 e10;generalize wr.alloc _=Wy at*;obtain⟨g0,g1,g2,g3,g4,g5,g6⟩:=s7b HYB.out
    have HBY:=HYB;clear HR HL;have q0:=HA1.out.k.c 0 0 rfl rfl;have HA2:=jq (HA1.out.alloc (.cells #[.string ⟨y.id.toArray⟩,.string ⟨y.inst.toArray⟩,.int .i64 y.acq,.int .i64 y.opn,.string ⟨y.q.toArray⟩,.string ⟨y.c.toArray⟩,.string ⟨y.u.toArray⟩] 54));have HO2:=jq (HO1.out.alloc (.cells #[.string ⟨y.id.toArray⟩,.string ⟨y.inst.toArray⟩,.int .i64 y.acq,.int .i64 y.opn,.string ⟨y.q.toArray⟩,.string ⟨y.c.toArray⟩,.string ⟨y.u.toArray⟩] 54));have HL1:=jq (Zij (y:=y) (show BlkB (Wy.alloc (.cells #[.string ⟨y.id.toArray⟩,.string ⟨y.inst.toArray⟩,.int .i64 y.acq,.int .i64 y.opn,.string ⟨y.q.toArray⟩,.string ⟨y.c.toArray⟩,.string ⟨y.u.toArray⟩] 54)) Wy.1.size (Xk y) 54 from heap_alloc_new Wy _));generalize hkl:Qn m x.m 0 (ls.take j)=kl at*;clear hkl;have hq7:w2.1.size+1<Wy.1.size:=HA1.out.k.lt 0 rfl
    go_wp2_with (at_builtin;refine Qt _ rfl (.tmp 154) (.tmp 156) _ rfl Xg Ql Xh (base:=W6.1.size) (.slice A2 _ c2) kl rfl HO2.out _ _ 1 1 [y] rfl HL1.out (by have:=HKE.out;omega) HA2.out.s ?_
                 intro A3 c3 w7 ho7 hg7 _;have HA3:=jq (HA2.out.app hg7 (Zfi HO2.out (Nat.le_refl _)));have f0:=HA3.out.k.f 0 0 rfl;have r0:=HA3.out.k.c 0 0 rfl rfl)
    clear q0 f0 r0
    go_roundw
    case rel=>
     have hl:(Qn m x.m 0 (ls.take (j+1))).length=kl.length+1:=by rw[HK2.out];simp
     exact⟨j+1,at_,A3,c3,by omega,by go_num,rfl,HCP.out,(show Rs w w2.1.size W3.1.size W6.1.size N xs.length c1 A1 Ao An Am Af Ap old x made _ _ by rw[hl];exact HA3.out.set (i:=0) rfl (by decide) (Nat.le_succ _) 0 _),(show Own _ _ _ _ _ _ _ by rw[hl,HK2.out];exact ho7.farB (HA3.out.k.at_ 0 rfl) (by decide) 0 _)⟩
    case measure=>simp[intOf];omega
  ·obtain rfl:n=j:=by omega
   have HTA:=jq (show ls.take n=ls from List.take_of_length_le (by rw[HLN.out];exact Nat.le_refl _));rw[HTA.out] at HR HL;go_wp2_with fail
   exact HX.out _ _ _ ⟨_,rfl,⟨rfl,rfl,rfl,rfl,rfl,rfl⟩,A2,c2,rfl,rfl,HR,HL⟩
end
section
attribute [local go_sem ↓] Go.wp_at_zero Go.wp_at_succ
theorem ZnQ(w w2 W3:World)(ls old:List Lot)(m:Mp)(x:Plan)(N:Nat)(Ao An Am Af Ap:Option Addr)(co cn cm cf cp:Nat)(fp:Fr)(mb pb:Array Value)(A:Option Addr)(n c:Nat)(H:MQ w w2 W3 ls old m x N Ao An Am Af Ap co cn cm cf cp fp mb pb)(xs made kp:List Lot)(HML:Hid (made.length=xs.length))(HTH:Hid (kp.length+made.length<=1000))(A1 A2:Option Addr)(c1 c2:Nat)(W6 W7:World)(HR:Hid (Rs w w2.1.size W3.1.size W6.1.size N xs.length c1 A1 Ao An Am Af Ap old x made [(w2.1.size+1,#[.slice A2 kp.length c2,.slice none 0 0,.slice none 0 0,.slice none 0 0],35),(w2.1.size,pb,73),(w.1.size+1,#[.slice none 0 0,.slice none 0 0,.slice none 0 0,.slice none 0 0],35),(w.1.size,mb,28)] W7))(HL:Hid (Own L7 7 54 W7 W6.1.size (.slice A2 kp.length c2) kp))(a:Array Value)(hf:Fx w w2 A n c a)(h8:Jh a.toList 8=.slice A1 xs.length c1)(h18:Jh a.toList 18=.int .i64 0):
 (Code.loop (rmB 3)).wp Tryz.prog (fun e a' wr=>∃t,a'=⟨t,[]⟩/\Fx w w2 A n c t/\∃A3 c3,e=.exit 6/\Jh t.toList 8=.slice A1 xs.length c1/\Hid (Rs w w2.1.size W3.1.size W6.1.size N xs.length c1 A1 Ao An Am Af Ap old x made [(w2.1.size+1,#[.slice A3 (made.foldl XG kp).length c3,.slice none 0 0,.slice none 0 0,.slice none 0 0],35),(w2.1.size,pb,73),(w.1.size+1,#[.slice none 0 0,.slice none 0 0,.slice none 0 0,.slice none 0 0],35),(w.1.size,mb,28)] wr)/\Hid (Own L7 7 54 wr W6.1.size (.slice A3 (made.foldl XG kp).length c3) (made.foldl XG kp))) ⟨a,[]⟩ W7:=by
 have HK:=jq H.hk;have HMC:=jq H.hc;have HNN:=jq H.hn;have HMR:=jq (fun V (h:Below W3.1.size W3 V)=>H.hm.step (h.mono (by have:=H.hs2;omega)));have EP0:=jq H.p0;have hN1:N<=1000:=by have:=HMC.out.old1000;have:=HNN.out;omega
 clear H;rw[VJ a hf.len];unfold ZcO;rw[hf.s0,hf.s3,hf.s4,hf.s6,hf.s7,h8,h18];clear hf h8 h18;generalize Jh a.toList=fr;refine ZbP fun Q HX HY=> ?_
 conv=>arg 2;arg 1;whnf
 have c0:=HK.out.c 1 0 rfl EP0.out;have hml:=HML.out;have hxl:xs.length<=1000:=by have:=HTH.out;omega
 go_loopw [18] (fun i wr=>∃(j:Nat) (A2:Option Addr) (c2:Nat),j<=xs.length/\i=.int .i64 j/\Hid (Rs w w2.1.size W3.1.size W6.1.size N xs.length c1 A1 Ao An Am Af Ap old x made [(w2.1.size+1,#[.slice A2 ((made.take j).foldl XG kp).length c2,.slice none 0 0,.slice none 0 0,.slice none 0 0],35),(w2.1.size,pb,73),(w.1.size+1,#[.slice none 0 0,.slice none 0 0,.slice none 0 0,.slice none 0 0],35),(w.1.size,mb,28)] wr)/\Hid (Own L7 7 54 wr W6.1.size (.slice A2 ((made.take j).foldl XG kp).length c2) ((made.take j).foldl XG kp))) (fun i _=>xs.length-(intOf i).toNat)
 case atStart=>exact⟨0,A2,c2,Nat.zero_le _,rfl,HR,HL⟩
 case round=>
  clear c0 HR HL;obtain⟨j,A3,c3,hj,rfl,HR,HL⟩:=hrel
  by_cases hlt:j<xs.length
  ·obtain⟨g,off,z,hA1,hb,hz,d0,d1,d2,d3,d4,d5,d6⟩:=(HR.out.d.sl Ql).lot7 hlt
   subst hA1
   have HFS:=jq (show(made.take (j+1)).foldl XG kp=XG ((made.take j).foldl XG kp) z by
    obtain⟨h1,h2⟩:=List.getElem?_eq_some_iff.1 hz
    rw[List.take_succ_eq_append_getElem h1,h2,List.foldl_append];rfl)
   have HFL:=jq (show((made.take j).foldl XG kp).length<=1000 by rw[Zk0,List.length_take];have:=HTH.out;omega);clear hz hb;generalize (made.take j).foldl XG kp=l at*
   have HPU:=jq (fun W (ho:Own L7 7 54 W W6.1.size (.slice A3 l.length c3) l)=>(show Calls Tryz.prog 39 #[.slice A3 l.length c3,XY z] W (RetOwn L7 7 54 W.1.size W (XG l z)) by
    obtain⟨_,h2,h3,h4⟩:=ho.facts
    exact Zjm A3 l.length c3 l z W (ho.sl Ql) (h4.imp (fun h=>⟨h.1,h.2.1⟩) (fun⟨g,h,_⟩=>⟨g,h⟩)) h2 h3 (by have:=HFL.out;omega)))
   unfold RetOwn XY at HPU
   try unfold S at HPU
   have q0:=HR.out.k.c 0 0 rfl rfl;go_upto_region 36 with (fail)
   go_region_with
    (go_at_call 39;refine(HPU.out _ HL.out.drew).mono ?_;rintro e w8 ⟨A4,c4,rfl,ho8,hb8⟩;have hg1:Below wr.1.size wr w8:=(Below.refl _ wr).drew.trans hb8;have HR8:=jq (HR.out.below hg1);have HO8:=jq (ho8.base_ (show W6.1.size<=wr.drew.1.size from HR.out.s));have z0:=HR8.out.k.c 0 0 rfl rfl;have f0:=HR8.out.k.f 0 0 rfl)
   all_goals
    go_wp2_with fail
    go_roundw
    case rel=>exact⟨j+1,A4,c4,by omega,by go_num,(show Rs _ _ _ _ _ _ _ _ _ _ _ _ _ _ _ _ _ _ by rw[HFS.out];exact HR8.out.set (i:=0) rfl (by decide) (Nat.le_succ _) 0 _),(show Own _ _ _ _ _ _ _ by rw[HFS.out];exact HO8.out.farB (HR8.out.k.at_ 0 rfl) (by decide) 0 _)⟩
    case measure=>simp[intOf];omega
  ·obtain rfl:j=xs.length:=by omega
   have HTM:=jq (show made.take xs.length=made by rw[<-HML.out,List.take_length]);rw[HTM.out] at HR HL;go_wp2_with fail
   exact HX.out _ _ _ ⟨_,rfl,⟨rfl,rfl,rfl,rfl,rfl,rfl⟩,A3,c3,rfl,rfl,HR,HL⟩
end
end Go.Proofs.YtpnncoinlopndaaGreatDoor
