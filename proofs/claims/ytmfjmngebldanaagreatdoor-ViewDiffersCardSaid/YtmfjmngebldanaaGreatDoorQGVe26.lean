/- X3, X4, X7, X8. -/
import Derived.Test.YtmfjmngebldanaaGreatDoorQGVe22
import Derived.Test.YtmfjmngebldanaaGreatDoorQGVe24
set_option maxRecDepth 100000
set_option maxHeartbeats 8000000
namespace Go.Proofs.YtmfjmngebldanaaGreatDoor
open Go.Lib renaming hid→jq
open Go.RowKit Go.Shelf
section
attribute [local go_sem ↓] Go.wp_at_zero Go.wp_at_succ
def n10(f:Fr):Int:=if ¬f.ok then 1 else if 40<XV f.n\/40<XV f.d then 4 else 0
theorem Zfr(pos:Bool)(f:Fr):Qv pos false f=if n10 f≠0 then n10 f else if Xj f.rat 0<0\/(pos=true/\Xj f.rat 0=0) then 2 else 0:=by
 unfold Qv n10
 by_cases h1:f.ok
 ·have e1:¬ ¬f.ok:=fun h=>h h1
  simp only[if_neg e1]
  by_cases h2:40<XV f.n\/40<XV f.d
  ·simp only[if_pos h2];rw[if_pos (by decide)]
  ·simp only[if_neg h2];rw[if_neg (show ¬((0:Int)≠0) by decide)]
   rcases ZhL f.rat 0 with ⟨e,h⟩|⟨e,h⟩|⟨e,h⟩
   ·rw[e,if_pos (.inl h),if_pos (.inl (by decide))]
   ·rw[e,h]
    cases pos
    ·rw[if_neg (by rintro(h|⟨h,_⟩|⟨h,_⟩);exact absurd h (Rat.lt_irrefl);cases h;cases h),if_neg (by simp)]
    ·rw[if_pos (.inr (.inl ⟨rfl,rfl⟩)),if_pos (.inr ⟨rfl,rfl⟩)]
   ·have h5:¬f.rat<0:=Rat.not_lt.2 (Rat.le_of_lt h);have h6:¬f.rat=0:=fun h7=>by rw[h7] at h;exact Rat.lt_irrefl h
    rw[e,if_neg (by rintro(h|⟨_,h⟩|⟨h,_⟩);exact h5 h;exact h6 h;cases h),if_neg (by simp)]
 ·simp only[if_pos h1];rw[if_pos (by decide)]
theorem Zfs(f:Fr)(w:World)(hp:Env w)(hf:f.Sz 20000):Calls Tryz.prog 153 #[Xg f] w fun e w'=>e=.returned (.int .i64 (n10 f))/\Below w.1.size w w':=by
 have H:=jq ((Kp.start hp).new w.1.size rfl #[.string ⟨f.n.toArray⟩,.string ⟨f.d.toArray⟩] 39);have HC:=jq (fun W=>Zgq f W (hf.more (by omega)));have HD1:=jq (fun W=>Jp f.n W (by have:=hf.1;omega));have HD2:=jq (fun W=>Jp f.d W (by have:=hf.2;omega));have HE:=jq (show n10 f=if ¬f.ok then 1 else if 40<XV f.n\/40<XV f.d then 4 else 0 from rfl);have HCF:=jq (show JK f=if f.ok then 0 else 1 from rfl);clear hf hp;have x0:=H.out.c 0 0 rfl rfl;have x1:=H.out.c 0 1 rfl rfl;generalize n10 f=res at*;generalize JK f=cf at*;generalize XV f.n=g1 at*;generalize XV f.d=g2 at*;unfold QR Xg S at*
 by_cases hk:f.ok
 ·rw[if_neg (fun h=>h hk)] at HE;rw[if_pos hk] at HCF;have hcf:=HCF.out;subst hcf;clear hk
  by_cases h1:40<g1
  ·rw[if_pos (.inl h1)] at HE;have h1':(40:Int)<(g1:Nat):=by omega
   go_enter Tryz.func153,Tryz.ntmps153
   go_wp2_with fail
   refine(HC.out _).mono ?_;rintro e w1 ⟨rfl,hb1⟩;have H1:=jq (H.out.here hb1);clear x0 x1;have x0:=H1.out.c 0 0 rfl rfl;have x1:=H1.out.c 0 1 rfl rfl;go_wp2_with fail
   refine(HD1.out _).mono ?_;rintro e w2 ⟨rfl,rfl⟩;go_wp2_with fail
   first|go_ret|skip
   exact⟨Qa HE.out.symm,H1.out.bl⟩
  ·have h1':¬(40:Int)<(g1:Nat):=by omega
   by_cases h2:40<g2
   ·rw[if_pos (.inr h2)] at HE;have h2':(40:Int)<(g2:Nat):=by omega
    go_enter Tryz.func153,Tryz.ntmps153
    go_wp2_with fail
    refine(HC.out _).mono ?_;rintro e w1 ⟨rfl,hb1⟩;have H1:=jq (H.out.here hb1);clear x0 x1;have x0:=H1.out.c 0 0 rfl rfl;have x1:=H1.out.c 0 1 rfl rfl;go_wp2_with fail
    refine(HD1.out _).mono ?_;rintro e w2 ⟨rfl,rfl⟩;go_wp2_with fail
    refine(HD2.out _).mono ?_;rintro e w2 ⟨rfl,rfl⟩;go_wp2_with fail
    first|go_ret|skip
    exact⟨Qa HE.out.symm,H1.out.bl⟩
   ·rw[if_neg (by omega)] at HE;have h2':¬(40:Int)<(g2:Nat):=by omega
    go_enter Tryz.func153,Tryz.ntmps153
    go_wp2_with fail
    refine(HC.out _).mono ?_;rintro e w1 ⟨rfl,hb1⟩;have H1:=jq (H.out.here hb1);clear x0 x1;have x0:=H1.out.c 0 0 rfl rfl;have x1:=H1.out.c 0 1 rfl rfl;go_wp2_with fail
    refine(HD1.out _).mono ?_;rintro e w2 ⟨rfl,rfl⟩;go_wp2_with fail
    refine(HD2.out _).mono ?_;rintro e w2 ⟨rfl,rfl⟩;go_wp2_with fail
    first|go_ret|skip
    exact⟨Qa HE.out.symm,H1.out.bl⟩
 ·rw[if_pos hk] at HE;rw[if_neg hk] at HCF;have hcf:=HCF.out;subst hcf;clear hk;go_enter Tryz.func153,Tryz.ntmps153
  go_wp2_with fail
  refine(HC.out _).mono ?_;rintro e w1 ⟨rfl,hb1⟩;go_wp2_with fail
  first|go_ret|skip
  exact⟨Qa HE.out.symm,(H.out.here hb1).bl⟩
theorem Zbd(f:Fr)(w:World)(hp:Env w)(hf:f.Sz 20000):Calls Tryz.prog 154 #[Xg f] w fun e w'=>e=.returned (.int .i64 (Xj f.rat 0))/\Below w.1.size w w':=by
 have H:=jq ((Kp.start hp).new w.1.size rfl #[.string ⟨f.n.toArray⟩,.string ⟨f.d.toArray⟩] 39);have HC:=jq (fun W=>ZaM f Fr.zero W hf ⟨by simp[Fr.zero],by simp[Fr.zero]⟩);rw[Zey] at HC;clear hf hp;have x0:=H.out.c 0 0 rfl rfl;have x1:=H.out.c 0 1 rfl rfl;generalize Xj f.rat 0=z at*;unfold QR Xg Fr.zero S at*
 go_enter Tryz.func154,Tryz.ntmps154
 go_wp2_with fail
 refine(HC.out _).mono ?_;rintro e w1 ⟨rfl,hb1⟩;go_wp2_with fail
 first|go_ret|skip
 exact⟨rfl,(H.out.here hb1).bl⟩
theorem Vy(f:Fr)(pos:Bool)(w:World)(hp:Env w)(hf:f.Sz 20000):Calls Tryz.prog 123 #[Xg f,.bool pos] w fun e w'=>e=.returned (.int .i64 (Qv pos false f))/\Below w.1.size w w':=by
 have H:=jq ((Kp.start hp).new w.1.size rfl #[.string ⟨f.n.toArray⟩,.string ⟨f.d.toArray⟩] 39);have HN:=jq (fun W (hW:Env W)=>Zfs f W hW hf);have HS:=jq (fun W (hW:Env W)=>Zbd f W hW hf);have HE:=jq (Zfr pos f);have hv:=ZhL f.rat 0;have HV:=jq (show Xj f.rat 0= -1\/Xj f.rat 0=0\/Xj f.rat 0=1 from hv.imp (·.1) (fun h=>h.imp (·.1) (·.1)));clear hf hp hv;have x0:=H.out.c 0 0 rfl rfl;have x1:=H.out.c 0 1 rfl rfl;generalize Qv pos false f=res at*;generalize n10 f=n at*;generalize Xj f.rat 0=z at*;unfold Xg S at*
 by_cases h0:n=0
 ·subst h0;rw[if_neg (by simp)] at HE
  rcases HV.out with rfl|rfl|rfl
  ·rw[if_pos (.inl (by decide))] at HE;go_enter Tryz.func123,Tryz.ntmps123
   go_wp2_with fail
   refine(HN.out _ H.out.pw).mono ?_;rintro e w1 ⟨rfl,hb1⟩;have H1:=jq (H.out.here hb1);clear x0 x1;have x0:=H1.out.c 0 0 rfl rfl;have x1:=H1.out.c 0 1 rfl rfl;go_wp2_with fail
   refine(HS.out _ H1.out.pw).mono ?_;rintro e w2 ⟨rfl,hb2⟩;go_wp2_with fail
   first|go_ret|skip
   exact⟨Qa HE.out.symm,(H1.out.here hb2).bl⟩
  ·cases pos with
   |true=>
    rw[if_pos (.inr ⟨rfl,rfl⟩)] at HE;go_enter Tryz.func123,Tryz.ntmps123
    go_wp2_with fail
    refine(HN.out _ H.out.pw).mono ?_;rintro e w1 ⟨rfl,hb1⟩;have H1:=jq (H.out.here hb1);clear x0 x1;have x0:=H1.out.c 0 0 rfl rfl;have x1:=H1.out.c 0 1 rfl rfl;go_wp2_with fail
    refine(HS.out _ H1.out.pw).mono ?_;rintro e w2 ⟨rfl,hb2⟩;have H2:=jq (H1.out.here hb2);clear x0 x1;have x0:=H2.out.c 0 0 rfl rfl;have x1:=H2.out.c 0 1 rfl rfl;go_wp2_with fail
    refine(HS.out _ H2.out.pw).mono ?_;rintro e w3 ⟨rfl,hb3⟩;go_wp2_with fail
    first|go_ret|skip
    exact⟨Qa HE.out.symm,(H2.out.here hb3).bl⟩
   |false=>
    rw[if_neg (by simp)] at HE;go_enter Tryz.func123,Tryz.ntmps123
    go_wp2_with fail
    refine(HN.out _ H.out.pw).mono ?_;rintro e w1 ⟨rfl,hb1⟩;have H1:=jq (H.out.here hb1);clear x0 x1;have x0:=H1.out.c 0 0 rfl rfl;have x1:=H1.out.c 0 1 rfl rfl;go_wp2_with fail
    refine(HS.out _ H1.out.pw).mono ?_;rintro e w2 ⟨rfl,hb2⟩;go_wp2_with fail
    first|go_ret|skip
    exact⟨Qa HE.out.symm,(H1.out.here hb2).bl⟩
  ·rw[if_neg (by simp)] at HE
   cases pos with
   |true=>
    go_enter Tryz.func123,Tryz.ntmps123
    go_wp2_with fail
    refine(HN.out _ H.out.pw).mono ?_;rintro e w1 ⟨rfl,hb1⟩;have H1:=jq (H.out.here hb1);clear x0 x1;have x0:=H1.out.c 0 0 rfl rfl;have x1:=H1.out.c 0 1 rfl rfl;go_wp2_with fail
    refine(HS.out _ H1.out.pw).mono ?_;rintro e w2 ⟨rfl,hb2⟩;have H2:=jq (H1.out.here hb2);clear x0 x1;have x0:=H2.out.c 0 0 rfl rfl;have x1:=H2.out.c 0 1 rfl rfl;go_wp2_with fail
    refine(HS.out _ H2.out.pw).mono ?_;rintro e w3 ⟨rfl,hb3⟩;go_wp2_with fail
    first|go_ret|skip
    exact⟨Qa HE.out.symm,(H2.out.here hb3).bl⟩
   |false=>
    go_enter Tryz.func123,Tryz.ntmps123
    go_wp2_with fail
    refine(HN.out _ H.out.pw).mono ?_;rintro e w1 ⟨rfl,hb1⟩;have H1:=jq (H.out.here hb1);clear x0 x1;have x0:=H1.out.c 0 0 rfl rfl;have x1:=H1.out.c 0 1 rfl rfl;go_wp2_with fail
    refine(HS.out _ H1.out.pw).mono ?_;rintro e w2 ⟨rfl,hb2⟩;go_wp2_with fail
    first|go_ret|skip
    exact⟨Qa HE.out.symm,(H1.out.here hb2).bl⟩
 ·have h0':(n==0)=false:=beq_false_of_ne h0;rw[if_pos h0] at HE;go_enter Tryz.func123,Tryz.ntmps123
  go_wp2_with fail
  refine(HN.out _ H.out.pw).mono ?_;rintro e w1 ⟨rfl,hb1⟩;go_wp2_with fail
  first|go_ret|skip
  exact⟨Qa HE.out.symm,(H.out.here hb1).bl⟩
end
section
attribute [local go_sem ↓] Go.wp_at_zero Go.wp_at_succ
theorem Ziv{p:Pk->Bool}{xs:List Pk}{k:Nat}{x:Pk}(h:xs[k]?=some x):(xs.take (k+1)).any p=((xs.take k).any p||p x):=by
 obtain⟨hk,rfl⟩:=List.getElem?_eq_some_iff.1 h
 rw[List.take_succ_eq_append_getElem hk,List.any_append];simp
theorem Zeg{p:Pk->Bool}{xs:List Pk}{j k:Nat}{x:Pk}(h:xs[j]?=some x)(hj:j<k)(hp:p x=true):(xs.take k).any p=true:=by
 obtain⟨hk,rfl⟩:=List.getElem?_eq_some_iff.1 h
 exact List.any_eq_true.2 ⟨_,List.mem_take_iff_getElem.2 ⟨j,by omega,rfl⟩,hp⟩
theorem Zgr(f:Fct)(v:FaV)(w:World)(hp:Env w)(hf:f.Sz 1000)(hm:FaM w w.1.size f v)(hn:v.pn<=100000):Calls Tryz.prog 126 #[.agg (Qb f v)] w fun e w'=>e=.returned (.int .i64 (YM f))/\Below w.1.size w w':=by
 have H:=jq ((Kp.start hp).new w.1.size rfl (Qb f v) 43);have hnp:=hm.pk.1;have HR:=jq (show YM f=if 64<f.picks.length then 4 else if(Xt f.picks [] 0).1≠0 then(Xt f.picks [] 0).1 else if val f.q<(Xt f.picks [] 0).2 then 15 else 0 from rfl);rw[<-hnp] at HR;have HS:=jq hm.pk;have HZ:=jq hf;have HNP:=jq hnp;obtain⟨N,hN⟩:∃N,N=v.pn:=⟨_,rfl⟩
 rw[<-hN] at HR HS HNP hn;obtain⟨A,hA⟩:∃A,A=v.pA:=⟨_,rfl⟩
 obtain⟨C,hC⟩:∃C,C=v.pc:=⟨_,rfl⟩
 rw[<-hA] at HS;have E18:=jq (show(Qb f v)[18]?=some (.slice A N C) by rw[hA,hN,hC];rfl);have E9:=jq (show(Qb f v)[9]?=some (.string ⟨f.q.toArray⟩) from rfl);generalize YM f=res at*;clear hp hf hm hnp hN hA hC;generalize Qb f v=fb at*;have x18:=H.out.c 0 18 rfl E18.out
 by_cases h64:64<N
 ·rw[if_pos h64] at HR;have h64':(64:Int)<(N:Int):=by omega
  clear h64;go_enter Tryz.func126,Tryz.ntmps126
  go_wp2_with fail
  first|go_ret|skip
  exact⟨Qa HR.out.symm,H.out.bl⟩
 rw[if_neg h64] at HR;have h64':¬(64:Int)<(N:Int):=by omega
 have HN64:=jq h64;clear h64;go_enter Tryz.func126,Tryz.ntmps126
 go_wp2_with fail
 generalize w.alloc (.cells fb 43)=W0 at*;clear x18
 go_loopw [2,3,4,5,6] (fun r s i _ _ wr=>∃(k:Nat) (sum:Int),k<=N/\r=.int .i64 0/\s=.string ⟨(Qe sum).toArray⟩/\i=.int .i64 k/\Hid (Kp w [(w.1.size,fb,43)] wr)/\Hid (Xt (f.picks.drop k) (f.picks.take k) sum=Xt f.picks [] 0)/\Hid (sum=ZdN ((f.picks.take k).map (·.q)))) (fun _ _ i _ _ _=>N-(intOf i).toNat)
 case atStart=>exact⟨0,0,Nat.zero_le _,rfl,rfl,rfl,H,(show _=_ by rw[List.drop_zero,List.take_zero]),(show _=_ by rw[List.take_zero];rfl)⟩
 case round=>
  clear H;obtain⟨k,sum,hk,rfl,rfl,rfl,H,HQ,HSU⟩:=hrel
  have hlen:(Qe sum).length<=1005:=by
   rw[HSU.out];exact ZeA (fun y hy=>by obtain⟨z,hz,rfl⟩:=List.mem_map.1 hy;exact(HZ.out.picks z (List.mem_of_mem_take hz)).q) (by have:=HN64.out;rw[List.length_map,List.length_take];omega)
  have HLN:=jq hlen;clear hlen;have x18:=H.out.c 0 18 rfl E18.out
  by_cases hlt:k<N
  ·obtain⟨b,off,y,rfl,hb,hx,d0,d1⟩:=(HS.out.below H.out.bl).pk hlt
   have HX:=jq hx;clear hx;have HYZ:=jq (HZ.out.picks y (List.mem_of_getElem? HX.out))
   have HDR:=jq (show Xt f.picks [] 0=if idB y.lot=false then(23,sum) else if(f.picks.take k).any (fun x=>x.lot==y.lot) then(5,sum) else if Qv true false ⟨y.q,[]⟩≠0 then(Qv true false ⟨y.q,[]⟩,sum) else Xt (f.picks.drop (k+1)) (f.picks.take (k+1)) (sum+val y.q) by
    have hx:=HX.out;obtain⟨hk2,e⟩:=List.getElem?_eq_some_iff.1 hx
    rw[<-HQ.out,List.drop_eq_getElem_cons hk2,e,ZeQ,List.take_succ_eq_append_getElem hk2,e])
   clear HQ;have HIL:=jq (fun W=>Zgm y.lot W (by have:=HYZ.out.lot;omega));unfold S at HIL;generalize idB y.lot=ib at*
   cases ib with
   |false=>
    rw[if_pos rfl] at HDR;rw[HDR.out] at HR;go_wp2_with fail
    refine(HIL.out _).mono ?_;rintro e W2 ⟨rfl,rfl⟩;go_wp2_with fail
    first|go_ret|skip
    exact⟨Qa (by rw[HR.out];rfl),H.out.bl⟩
   |true=>
    rw[if_neg (by decide)] at HDR;go_wp2_with fail
    refine(HIL.out _).mono ?_;rintro e W2 ⟨rfl,rfl⟩;clear HIL;go_wp2_with fail
    clear x18 d0 d1;have HK:=jq hk
    go_loopw [2,5] (fun r j wi=>∃q:Nat,q<=k/\r=.int .i64 0/\j=.int .i64 q/\Hid (Kp w [(w.1.size,fb,43)] wi)/\Hid ((f.picks.take q).any (fun x=>x.lot==y.lot)=false)) (fun _ j _=>k-(intOf j).toNat)
    case atStart=>exact⟨0,Nat.zero_le _,rfl,rfl,H,rfl⟩
    case round=>
     clear H;obtain⟨q,hq,rfl,rfl,H,HA⟩:=hrel
     have x18:=H.out.c 0 18 rfl E18.out
     by_cases hqk:q<k
     ·have hqN:q<N:=by omega
      obtain⟨b',off',z,hA',hb',hz,e0,e1⟩:=(HS.out.below H.out.bl).pk hqN
      injection hA' with hA'
      injection hA' with hA1 hA2 _
      subst hA1;subst hA2;obtain⟨_,_,y',hA2,_,hy',d0,d1⟩:=(HS.out.below H.out.bl).pk hlt
      injection hA2 with hA2;injection hA2 with hA3 hA4 _;subst hA3;subst hA4;have hyy:y'=y:=by rw[HX.out] at hy';injection hy' with hy';exact hy'.symm
      subst hyy;have HAT:=jq (Ziv (p:=fun x=>x.lot==y'.lot) hz);have HIN:=jq (fun h=>Zeg (p:=fun x=>x.lot==y'.lot) hz hqk h);rw[HA.out,Bool.false_or] at HAT;have hq':(q:Int)<(k:Int):=by omega
      clear hz HA hb' e1 d1 hy';go_upto_region 12 with (fail)
      cases hzl:(z.lot==y'.lot) with
      |true=>
       have hI:=HIN.out hzl;rw[hI,if_pos rfl] at HDR;rw[HDR.out] at HR;clear HAT HIN hI HDR
       go_region
       all_goals
        go_wp2_with fail
        first|go_ret|skip
        exact⟨Qa (by rw[HR.out];rfl),H.out.drew.bl⟩
      |false=>
       rw[hzl] at HAT;clear HIN
       go_region
       all_goals
        go_wp2_with fail
        go_roundw
        case rel=>exact⟨q+1,by omega,rfl,by go_num,H.out.drew,HAT.out⟩
        case measure=>simp[intOf];omega
     ·obtain rfl:q=k:=by omega
      have hqq:¬(q:Int)<(q:Int):=by omega
      rw[HA.out,if_neg (by decide)] at HDR;obtain⟨_,_,y',hA2,_,hy',d0,d1⟩:=(HS.out.below H.out.bl).pk hlt
      injection hA2 with hA2;injection hA2 with hA3 hA4 _;subst hA3;subst hA4;have hyy:y'=y:=by rw[HX.out] at hy';injection hy' with hy';exact hy'.symm
      subst hyy;clear hy' HA d0;have HWH:=jq (show ∀V,Calls Tryz.prog 121 #[.string ⟨y'.q.toArray⟩,.string ⟨#[49]⟩] V fun e w'=>e=.returned (.int .i64 (Qv true false ⟨y'.q,[]⟩))/\V=w' from fun V=>VN true y'.q V (by have:=HYZ.out.q;omega));have HAD:=jq (fun V=>ZkI (Qe sum) y'.q V (by have:=HLN.out;omega) (by have:=HYZ.out.q;omega));rw[Qm] at HAD
      have HS2:=jq (show sum+val y'.q=ZdN ((f.picks.take (q+1)).map (·.q)) by
       obtain⟨hk2,e⟩:=List.getElem?_eq_some_iff.1 HX.out
       rw[List.take_succ_eq_append_getElem hk2,List.map_append,HSU.out,e];unfold ZdN;rw[List.map_append,Zbg];simp)
      generalize hnc:Qv true false ⟨y'.q,[]⟩=nc at*;clear hnc;unfold S at HAD
      by_cases hn0:nc=0
      ·subst hn0;rw[if_neg (by simp)] at HDR;go_wp2_with fail
       refine(HWH.out _).mono ?_;rintro e W3 ⟨rfl,rfl⟩;go_wp2_with fail
       refine(HAD.out _).mono ?_;rintro e W4 ⟨rfl,hb4⟩;unfold S;go_wp2_with fail
       go_roundw
       case rel=>exact⟨q+1,sum+val y'.q,by omega,rfl,rfl,by go_num,H.out.here hb4,HDR.out.symm,HS2.out⟩
       case measure=>simp[intOf];omega
      ·rw[if_pos hn0] at HDR;rw[HDR.out] at HR;have hn1:(nc !=0)=true:=by simpa using hn0
       have HN0:=jq hn0;clear hn0;go_wp2_with fail
       refine(HWH.out _).mono ?_;rintro e W3 ⟨rfl,rfl⟩;go_wp2_with fail
       first|go_ret|skip
       exact⟨Qa (by rw[HR.out,if_pos HN0.out]),H.out.bl⟩
  ·obtain rfl:k=N:=by omega
   have hkk:¬(k:Int)<(k:Int):=by omega
   have HQ2:=jq (show Xt f.picks [] 0=(0,sum) by
    rw[<-HQ.out,List.drop_eq_nil_of_le (by rw[<-HNP.out];exact Nat.le_refl _)];rfl)
   rw[HQ2.out] at HR;rw[if_neg (by simp)] at HR;have HCM:=jq (fun W=>XJ (Qe sum) f.q W (by have:=HLN.out;omega) (by have:=HZ.out.q;omega));rw[Qm] at HCM;have x9:=H.out.c 0 9 rfl E9.out;have HSG:=jq (show decide (0<QM (sum-val f.q))=decide (val f.q<sum) by unfold QM;(repeat' split)<;>simp<;>omega);clear HQ HQ2 HSU HLN;generalize QM (sum-val f.q)=sg at*;unfold S at HCM
   by_cases hs:val f.q<sum
   ·rw[if_pos hs] at HR;have hd:decide (0<sg)=true:=by rw[HSG.out];simpa using hs
    have hd':0<sg:=of_decide_eq_true hd;clear hs;go_wp2_with fail
    refine(HCM.out _).mono ?_;rintro e W5 ⟨rfl,rfl⟩;go_wp2_with fail
    first|go_ret|skip
    exact⟨Qa HR.out.symm,H.out.bl⟩
   ·rw[if_neg hs] at HR;have hd:decide (0<sg)=false:=by rw[HSG.out];simpa using hs
    have hd':¬0<sg:=of_decide_eq_false hd;clear hs;go_wp2_with fail
    refine(HCM.out _).mono ?_;rintro e W5 ⟨rfl,rfl⟩;go_wp2_with fail
    first|go_ret|skip
    exact⟨Qa HR.out.symm,H.out.bl⟩
end
section
attribute [local go_sem ↓] Go.wp_at_zero Go.wp_at_succ Ql
def ZkX(f:Fct):Int:=
 if(decide (f.kind=7)||decide (f.kind=16))=true then(if Yq f.other=false then 12 else if f.other=f.cur then 18 else 0) else if Qr f.other=false then 23 else if f.other=f.inst then 18 else 0
theorem Zgs(f:Fct)(r:KRow)(h:QE f.kind=some r):Qy f r 1=ZkX f:=by
 unfold ZkX;rw[<-ZjG h];rfl
theorem Zgt(f:Fct)(v:FaV)(w:World)(hp:Env w)(hf:f.Sz 1000):Calls Tryz.prog 119 #[.agg (Qb f v)] w fun e w'=>e=.returned (.int .i64 (ZkX f))/\Below w.1.size w w':=by
 have H:=jq ((Kp.start hp).new w.1.size rfl (Qb f v) 43);have HOC:=jq (fun W=>Zd2 f.kind W);have HC:=jq (fun W=>ZdF f.other W (Nat.le_trans hf.other (by decide)));have HN:=jq (fun W=>Vw f.other W (Nat.le_trans hf.other (by decide)));have HE:=jq (show ZkX f=if(decide (f.kind=7)||decide (f.kind=16))=true then(if Yq f.other=false then 12 else if f.other=f.cur then 18 else 0) else if Qr f.other=false then 23 else if f.other=f.inst then 18 else 0 from rfl);have K4:=jq (show(Qb f v)[4]?=some (.int .i64 f.kind) from rfl);have K5:=jq (show(Qb f v)[5]?=some (.string ⟨f.inst.toArray⟩) from rfl);have K6:=jq (show(Qb f v)[6]?=some (.string ⟨f.other.toArray⟩) from rfl);have K7:=jq (show(Qb f v)[7]?=some (.string ⟨f.cur.toArray⟩) from rfl);generalize ZkX f=res at*;generalize Qb f v=fb at*;generalize (decide (f.kind=7)||decide (f.kind=16))=cd at*;generalize Yq f.other=cb at*;generalize Qr f.other=nb at*;have x4:=H.out.c 0 4 rfl K4.out;have x5:=H.out.c 0 5 rfl K5.out;have x6:=H.out.c 0 6 rfl K6.out;have x7:=H.out.c 0 7 rfl K7.out;generalize f.other=ot at*;generalize f.cur=cu at*;generalize f.inst=it at*;generalize f.kind=kd at*;clear hp hf K4 K5 K6 K7;unfold S at*
 cases cd with
 |true=>
  rw[if_pos rfl] at HE
  cases cb with
  |false=>
   rw[if_pos rfl] at HE;go_enter Tryz.func119,Tryz.ntmps119
   go_wp2_with fail
   refine(HOC.out _).mono ?_;rintro e w1 ⟨rfl,rfl⟩;go_wp2_with fail
   refine(HC.out _).mono ?_;rintro e w1 ⟨rfl,rfl⟩;go_wp2_with fail
   first|go_ret|skip
   exact⟨Qa HE.out.symm,H.out.bl⟩
  |true=>
   rw[if_neg (by decide)] at HE
   by_cases hq:ot=cu
   ·have hq':(ot==cu)=true:=by simp[hq]
    rw[if_pos hq] at HE;clear hq;go_enter Tryz.func119,Tryz.ntmps119
    go_wp2_with fail
    refine(HOC.out _).mono ?_;rintro e w1 ⟨rfl,rfl⟩;go_wp2_with fail
    refine(HC.out _).mono ?_;rintro e w1 ⟨rfl,rfl⟩;go_wp2_with fail
    first|go_ret|skip
    exact⟨Qa HE.out.symm,H.out.bl⟩
   ·have hq':(ot==cu)=false:=by simp[hq]
    rw[if_neg hq] at HE;clear hq;go_enter Tryz.func119,Tryz.ntmps119
    go_wp2_with fail
    refine(HOC.out _).mono ?_;rintro e w1 ⟨rfl,rfl⟩;go_wp2_with fail
    refine(HC.out _).mono ?_;rintro e w1 ⟨rfl,rfl⟩;go_wp2_with fail
    first|go_ret|skip
    exact⟨Qa HE.out.symm,H.out.bl⟩
 |false=>
  rw[if_neg (by decide)] at HE
  cases nb with
  |false=>
   rw[if_pos rfl] at HE;go_enter Tryz.func119,Tryz.ntmps119
   go_wp2_with fail
   refine(HOC.out _).mono ?_;rintro e w1 ⟨rfl,rfl⟩;go_wp2_with fail
   refine(HN.out _).mono ?_;rintro e w1 ⟨rfl,rfl⟩;go_wp2_with fail
   first|go_ret|skip
   exact⟨Qa HE.out.symm,H.out.bl⟩
  |true=>
   rw[if_neg (by decide)] at HE
   by_cases hq:ot=it
   ·have hq':(ot==it)=true:=by simp[hq]
    rw[if_pos hq] at HE;clear hq;go_enter Tryz.func119,Tryz.ntmps119
    go_wp2_with fail
    refine(HOC.out _).mono ?_;rintro e w1 ⟨rfl,rfl⟩;go_wp2_with fail
    refine(HN.out _).mono ?_;rintro e w1 ⟨rfl,rfl⟩;go_wp2_with fail
    first|go_ret|skip
    exact⟨Qa HE.out.symm,H.out.bl⟩
   ·have hq':(ot==it)=false:=by simp[hq]
    rw[if_neg hq] at HE;clear hq;go_enter Tryz.func119,Tryz.ntmps119
    go_wp2_with fail
    refine(HOC.out _).mono ?_;rintro e w1 ⟨rfl,rfl⟩;go_wp2_with fail
    refine(HN.out _).mono ?_;rintro e w1 ⟨rfl,rfl⟩;go_wp2_with fail
    first|go_ret|skip
    exact⟨Qa HE.out.symm,H.out.bl⟩
end
section
attribute [local go_sem ↓] Go.wp_at_zero Go.wp_at_succ
theorem Zht{z:Fr}(h:Qv false false z=0):(z=⟨[],[]⟩)↔Xj z.rat 0=0:=by
 have hok:z.ok:=by
  unfold Qv at h
  by_cases ho:z.ok
  ·exact ho
  ·rw[if_pos ho] at h;cases h
 have hf:QJ z.rat=z:=hok.symm
 constructor
 ·intro e;rw[e];decide+kernel
 ·intro h0
  rcases ZhL z.rat 0 with ⟨e,_⟩|⟨_,e⟩|⟨e,_⟩
  ·rw[h0] at e;cases e
  ·rw[<-hf,e];decide+kernel
  ·rw[h0] at e;cases e
def Zix(o:Opn):Bool:=((!(o.other==[]))&&decide (Xj o.ratio.rat 0=0))||((o.other==[])&&((!decide (Xj o.ratio.rat 0=0))||decide (Xj o.value.rat 0≠0)))
theorem ZkY:Xj (⟨[],[]⟩:Fr).rat 0=0:=by decide+kernel
theorem Zmr{o:Opn}(h1:Qv false false o.ratio=0)(h2:Qv false false o.value=0):(decide (o.other≠[])≠decide (o.ratio≠⟨[],[]⟩)\/(o.other=[]/\o.value≠⟨[],[]⟩))↔Zix o=true:=by
 have e1:=Zht h1;have e2:=Zht h2;unfold Zix
 by_cases ho:o.other=[]<;>by_cases hr:o.ratio=⟨[],[]⟩<;>by_cases hv:o.value=⟨[],[]⟩
 all_goals
  have r1:=hr;have r2:=hv;rw[e1] at r1;rw[e2] at r2
  simp[ho,hr,hv,r1,r2,ZkY]
theorem Zej{α:Type}{a b:Prop}[Decidable a][Decidable b](h:a↔b)(x y:α):(if a then x else y)=if b then x else y:=by
 by_cases ha:a
 ·rw[if_pos ha,if_pos (h.1 ha)]
 ·rw[if_neg ha,if_neg (fun hb=>ha (h.2 hb))]
theorem Zms(inst:List UInt8)(hi:inst≠[])(o:Opn)(os:List Opn):YN inst (o::os)=if(!(o.other==[])&& !Qr o.other)=true then 23 else if(!(o.other==[])&&(o.other==inst))=true then 18
 else if Qv false false o.ratio≠0 then Qv false false o.ratio else if Qv false false o.price≠0 then Qv false false o.price else if Qv false false o.value≠0 then Qv false false o.value
 else if Zix o=true then 2 else YN inst os:=by
 rw[Zf1];have q1:(o.other≠[]/\Qr o.other=false)↔(!(o.other==[])&& !Qr o.other)=true:=by simp
 have q2:(o.other=inst)↔(!(o.other==[])&&(o.other==inst))=true:=by
  simp
  intro e;rw[e];exact hi
 rw[Zej q1,Zej q2]
 split
 ·rfl
 split
 ·rfl
 split
 ·rfl
 split
 ·rfl
 split
 ·rfl
 rename_i h1 h2 h3
 exact Zej (Zmr (Decidable.not_not.1 h1) (Decidable.not_not.1 h3)) _ _
theorem Zek(f:Fct)(v:FaV)(w:World)(hp:Env w)(hf:f.Sz 1000)(hm:FaM w w.1.size f v)(hn:v.on<=100000)(hi:f.inst≠[]):Calls Tryz.prog 127 #[.agg (Qb f v)] w fun e w'=>e=.returned (.int .i64 (VU f))/\Below w.1.size w w':=by
 have H:=jq ((Kp.start hp).new w.1.size rfl (Qb f v) 43);have hnp:=hm.op.1;have HR:=jq (show VU f=if f.options.length=0 then 11 else if 8<f.options.length then 4 else YN f.inst f.options from rfl);rw[<-hnp] at HR;have HS:=jq hm.op;have HZ:=jq hf.options;have HNP:=jq hnp;have HI:=jq (Zms f.inst hi);obtain⟨N,hN⟩:∃N,N=v.on:=⟨_,rfl⟩
 rw[<-hN] at HR HS HNP hn;obtain⟨A,hA⟩:∃A,A=v.oA:=⟨_,rfl⟩
 obtain⟨C,hC⟩:∃C,C=v.oc:=⟨_,rfl⟩
 rw[<-hA] at HS;have E19:=jq (show(Qb f v)[19]?=some (.slice A N C) by rw[hA,hN,hC];rfl);have E5:=jq (show(Qb f v)[5]?=some (.string ⟨f.inst.toArray⟩) from rfl);generalize VU f=res at*;generalize f.inst=inst at*;clear hp hf hm hnp hN hA hC hi;generalize Qb f v=fb at*;have x19:=H.out.c 0 19 rfl E19.out
 by_cases h0:N=0
 ·rw[if_pos h0] at HR;have h0':((N:Int)==0)=true:=by rw[h0];rfl
  clear h0;go_enter Tryz.func127,Tryz.ntmps127
  go_wp2_with fail
  first|go_ret|skip
  exact⟨Qa HR.out.symm,H.out.bl⟩
 rw[if_neg h0] at HR;have h0':((N:Int)==0)=false:=beq_false_of_ne (by omega);clear h0
 by_cases h8:8<N
 ·rw[if_pos h8] at HR;have h8':(8:Int)<(N:Int):=by omega
  clear h8;go_enter Tryz.func127,Tryz.ntmps127
  go_wp2_with fail
  first|go_ret|skip
  exact⟨Qa HR.out.symm,H.out.bl⟩
 rw[if_neg h8] at HR;have h8':¬(8:Int)<(N:Int):=by omega
 clear h8;go_enter Tryz.func127,Tryz.ntmps127
 go_wp2_with fail
 generalize w.alloc (.cells fb 43)=W0 at*;clear x19
 go_loopw [2,3,4,5,6,7,8] (fun r i _ _ _ _ _ wr=>∃(k:Nat),k<=N/\r=.int .i64 0/\i=.int .i64 k/\Hid (Kp w [(w.1.size,fb,43)] wr)/\Hid (YN inst (f.options.drop k)=YN inst f.options)) (fun _ i _ _ _ _ _ _=>N-(intOf i).toNat)
 case atStart=>exact⟨0,Nat.zero_le _,rfl,rfl,H,(show _=_ by rw[List.drop_zero])⟩
 case round=>
  clear H;obtain⟨k,hk,rfl,rfl,H,HQ⟩:=hrel
  have x19:=H.out.c 0 19 rfl E19.out
  by_cases hlt:k<N
  ·obtain⟨b,off,y,rfl,hb,hx,d0,d1,d2,d3,d4,d5,d6⟩:=(HS.out.below H.out.bl).opt hlt
   have HX:=jq hx;clear hx;have HB:=jq (H.out.new wr.1.size rfl #[.string ⟨y.other.toArray⟩,.string ⟨y.ratio.n.toArray⟩,.string ⟨y.ratio.d.toArray⟩,.string ⟨y.price.n.toArray⟩,.string ⟨y.price.d.toArray⟩,.string ⟨y.value.n.toArray⟩,.string ⟨y.value.d.toArray⟩] 71);have HYZ:=jq (HZ.out y (List.mem_of_getElem? HX.out))
   have HDR:=jq (show YN inst f.options=if(!(y.other==[])&& !Qr y.other)=true then 23 else if(!(y.other==[])&&(y.other==inst))=true then 18
    else if Qv false false y.ratio≠0 then Qv false false y.ratio else if Qv false false y.price≠0 then Qv false false y.price else if Qv false false y.value≠0 then Qv false false y.value
    else if Zix y=true then 2 else YN inst (f.options.drop (k+1)) by
    obtain⟨hk2,e⟩:=List.getElem?_eq_some_iff.1 HX.out
    rw[<-HQ.out,List.drop_eq_getElem_cons hk2,e,HI.out])
   have HOQ:=jq (show Zix y=(((!(y.other==[]))&&decide (Xj y.ratio.rat 0=0))||((y.other==[])&&((!decide (Xj y.ratio.rat 0=0))||decide (Xj y.value.rat 0≠0)))) from rfl);clear HQ;have HNM:=jq (fun W=>Vw y.other W (by have:=HYZ.out.other;unfold maxLen;omega));have HN1:=jq (fun W hW=>Vy y.ratio false W hW ⟨by have:=HYZ.out.ratio.1;omega,by have:=HYZ.out.ratio.2;omega⟩);have HN2:=jq (fun W hW=>Vy y.price false W hW ⟨by have:=HYZ.out.price.1;omega,by have:=HYZ.out.price.2;omega⟩);have HN3:=jq (fun W hW=>Vy y.value false W hW ⟨by have:=HYZ.out.value.1;omega,by have:=HYZ.out.value.2;omega⟩);have HG1:=jq (fun W hW=>Zbd y.ratio W hW ⟨by have:=HYZ.out.ratio.1;omega,by have:=HYZ.out.ratio.2;omega⟩);have HG2:=jq (fun W hW=>Zbd y.value W hW ⟨by have:=HYZ.out.value.1;omega,by have:=HYZ.out.value.2;omega⟩);unfold Xg S at HN1 HN2 HN3 HG1 HG2;generalize Qv false false y.ratio=n1 at*;generalize Qv false false y.price=n2 at*;generalize Qv false false y.value=n3 at*;generalize Xj y.ratio.rat 0=s1 at*;generalize Xj y.value.rat 0=s2 at*;generalize Zix y=oq at*;go_upto_region 9 with (fail)
   generalize wr.alloc _=W1 at*;clear d0 d1 d2 d3 d4 d5 d6 H x19;generalize hb5:wr.1.size=b5 at*;clear hb5;generalize y.ratio.n=rn at *; generalize y.ratio.d=rd at*;generalize y.price.n=pn at *; generalize y.price.d=pd at*;generalize y.value.n=vn at *; generalize y.value.d=vd at*;have c0:W1.cell? ⟨b5,0,none⟩=some (.string ⟨y.other.toArray⟩):=HB.out.c 0 0 rfl rfl;generalize hb1:(!(y.other==[])&& !Qr y.other)=q1 at*;have HQ1:=jq hb1;clear hb1;unfold S at HNM
   go_cut [37] from 17 to 90 (fun s wc=>s=.bool q1/\Hid (Kp w [(b5,#[.string ⟨y.other.toArray⟩,.string ⟨rn.toArray⟩,.string ⟨rd.toArray⟩,.string ⟨pn.toArray⟩,.string ⟨pd.toArray⟩,.string ⟨vn.toArray⟩,.string ⟨vd.toArray⟩],71),(w.1.size,fb,43)] wc))
   case first=>
    cases e1:(y.other==[])
    ·have HE:=jq (show q1= !Qr y.other by rw[<-HQ1.out,e1];rfl);clear HQ1 HDR HOQ HN1 HN2 HN3 HG1 HG2;generalize Qr y.other=nb at*;go_wp2_with fail
     refine(HNM.out _).mono ?_;rintro e W2 ⟨rfl,rfl⟩;go_wp2_with fail
     go_meet
     exact⟨by rw[HE.out],HB⟩
    ·have HE:=jq (show q1=false by rw[<-HQ1.out,e1];rfl);clear HQ1 HDR HOQ HN1 HN2 HN3 HG1 HG2;go_wp2_with fail
     go_meet
     exact⟨by rw[HE.out],HB⟩
   case rest=>
   obtain⟨rfl,HB⟩:=hcut
   obtain⟨W2,rfl⟩:∃W,W=wc:=⟨_,rfl⟩
   clear c0 HQ1 HNM
   cases q1 with
   |true=>
    rw[if_pos rfl] at HDR;rw[HDR.out] at HR;go_wp2_with fail
    first|go_ret|skip
    exact⟨Qa HR.out.symm,HB.out.bl⟩
   |false=>
    rw[if_neg (by decide)] at HDR;have c0:W2.cell? ⟨b5,0,none⟩=some (.string ⟨y.other.toArray⟩):=HB.out.c 0 0 rfl rfl;have x5:=HB.out.c 1 5 rfl E5.out;generalize hb2:(!(y.other==[])&&(y.other==inst))=q2 at*;have HQ2:=jq hb2;clear hb2;go_upto_region 11 with (fail)
    go_cut [47] from 17 to 90 (fun s wc=>s=.bool q2/\wc=W2)
    case first=>
     clear HDR HOQ HN1 HN2 HN3 HG1 HG2
     cases e1:(y.other==[])
     ·have HE:=jq (show q2=(y.other==inst) by rw[<-HQ2.out,e1];rfl);clear HQ2
      cases e2:(y.other==inst)
      all_goals
       rw[e2] at HE;go_wp2_with fail
       go_meet
       exact⟨by rw[HE.out],rfl⟩
     ·have HE:=jq (show q2=false by rw[<-HQ2.out,e1];rfl);clear HQ2;go_wp2_with fail
      go_meet
      exact⟨by rw[HE.out],rfl⟩
    case rest=>
    obtain⟨rfl,rfl⟩:=hcut
    clear HQ2 x5 c0
    cases q2 with
    |true=>
     rw[if_pos rfl] at HDR;rw[HDR.out] at HR;go_wp2_with fail
     first|go_ret|skip
     exact⟨Qa HR.out.symm,HB.out.bl⟩
    |false=>
     rw[if_neg (by decide)] at HDR;obtain⟨W2,rfl⟩:∃W,W=wc:=⟨_,rfl⟩
     have c1:=HB.out.c 0 1 rfl rfl;have c2:=HB.out.c 0 2 rfl rfl
     by_cases h1:n1=0
     ·subst h1;rw[if_neg (by simp)] at HDR;go_wp2_with fail
      refine(HN1.out _ HB.out.pw).mono ?_;rintro e W3 ⟨rfl,hb3⟩;replace HB:=jq (HB.out.here hb3);clear c1 c2 hb3 HN1;have c3:=HB.out.c 0 3 rfl rfl;have c4:=HB.out.c 0 4 rfl rfl
      by_cases h2:n2=0
      ·subst h2;rw[if_neg (by simp)] at HDR;go_wp2_with fail
       refine(HN2.out _ HB.out.pw).mono ?_;rintro e W4 ⟨rfl,hb4⟩;replace HB:=jq (HB.out.here hb4);clear c3 c4 hb4 HN2;have c5:=HB.out.c 0 5 rfl rfl;have c6:=HB.out.c 0 6 rfl rfl
       by_cases h3:n3=0
       ·subst h3;rw[if_neg (by simp)] at HDR;go_wp2_with fail
        refine(HN3.out _ HB.out.pw).mono ?_;rintro e W5 ⟨rfl,hb5⟩;replace HB:=jq (HB.out.here hb5);clear c5 c6 hb5 HN3;have c1:=HB.out.c 0 1 rfl rfl;have c2:=HB.out.c 0 2 rfl rfl;obtain⟨t1,ht1⟩:∃t,t=decide (s1=0):=⟨_,rfl⟩
        have hs1:(s1==0)=t1:=by rw[ht1];rfl
        rw[<-ht1] at HOQ;clear ht1;go_wp2_with fail
        refine(HG1.out _ HB.out.pw).mono ?_;rintro e W6 ⟨rfl,hb6⟩;replace HB:=jq (HB.out.here hb6);clear c1 c2 hb6 HG1;go_upto_region 23 with (fail)
        go_cut [90] from 17 to 90 (fun s wc=>s=.bool oq/\Hid (Kp w [(b5,#[.string ⟨y.other.toArray⟩,.string ⟨rn.toArray⟩,.string ⟨rd.toArray⟩,.string ⟨pn.toArray⟩,.string ⟨pd.toArray⟩,.string ⟨vn.toArray⟩,.string ⟨vd.toArray⟩],71),(w.1.size,fb,43)] wc))
        case first=>
         clear HDR;have c0:W6.cell? ⟨b5,0,none⟩=some (.string ⟨y.other.toArray⟩):=HB.out.c 0 0 rfl rfl;have c5:=HB.out.c 0 5 rfl rfl;have c6:=HB.out.c 0 6 rfl rfl
         cases e1:(y.other==[])<;>cases t1
         ·have HE:=jq (show oq=false by rw[HOQ.out,e1];rfl);clear HOQ;go_wp2_with fail
          go_meet
          exact⟨by rw[HE.out],HB⟩
         ·have HE:=jq (show oq=true by rw[HOQ.out,e1];rfl);clear HOQ;go_wp2_with fail
          go_meet
          exact⟨by rw[HE.out],HB⟩
         ·have HE:=jq (show oq=true by rw[HOQ.out,e1];rfl);clear HOQ;go_wp2_with fail
          go_meet
          exact⟨by rw[HE.out],HB⟩
         ·have HE:=jq (show oq=(s2 !=0) by rw[HOQ.out,e1];show decide (s2≠0)=(s2 !=0);by_cases h:s2=0<;>simp[h]);clear HOQ;go_wp2_with fail
          refine(HG2.out _ HB.out.pw).mono ?_;rintro e W7 ⟨rfl,hb7⟩;replace HB:=jq (HB.out.here hb7);clear c0 c5 c6 hb7
          cases e2:(s2 !=0)
          all_goals
           rw[e2] at HE;go_wp2_with fail
           go_meet
           exact⟨by rw[HE.out],HB⟩
        case rest=>
        obtain⟨rfl,HB⟩:=hcut
        obtain⟨W8,rfl⟩:∃W,W=wc:=⟨_,rfl⟩
        clear HOQ
        cases oq with
        |true=>
         rw[if_pos rfl] at HDR;rw[HDR.out] at HR;go_wp2_with fail
         first|go_ret|skip
         exact⟨Qa HR.out.symm,HB.out.bl⟩
        |false=>
         rw[if_neg (by decide)] at HDR;go_wp2_with fail
         go_roundw
         case rel=>exact⟨k+1,by omega,rfl,by go_num,HB.out.tail,HDR.out.symm⟩
         case measure=>simp[intOf];omega
       ·rw[if_pos h3] at HDR;rw[HDR.out] at HR;have hn1:(n3 !=0)=true:=by simpa using h3
        clear h3;go_wp2_with fail
        refine(HN3.out _ HB.out.pw).mono ?_;rintro e W5 ⟨rfl,hb5⟩;go_wp2_with fail
        first|go_ret|skip
        exact⟨Qa HR.out.symm,(HB.out.here hb5).bl⟩
      ·rw[if_pos h2] at HDR;rw[HDR.out] at HR;have hn1:(n2 !=0)=true:=by simpa using h2
       clear h2;go_wp2_with fail
       refine(HN2.out _ HB.out.pw).mono ?_;rintro e W5 ⟨rfl,hb5⟩;go_wp2_with fail
       first|go_ret|skip
       exact⟨Qa HR.out.symm,(HB.out.here hb5).bl⟩
     ·rw[if_pos h1] at HDR;rw[HDR.out] at HR;have hn1:(n1 !=0)=true:=by simpa using h1
      clear h1;go_wp2_with fail
      refine(HN1.out _ HB.out.pw).mono ?_;rintro e W5 ⟨rfl,hb5⟩;go_wp2_with fail
      first|go_ret|skip
      exact⟨Qa HR.out.symm,(HB.out.here hb5).bl⟩
  ·obtain rfl:k=N:=by omega
   have HQ2:=jq (show YN inst f.options=0 by
    rw[<-HQ.out,List.drop_eq_nil_of_le (by rw[<-HNP.out];exact Nat.le_refl _)];rfl)
   rw[HQ2.out] at HR;go_wp2_with fail
   first|go_ret|skip
   exact⟨Qa HR.out.symm,H.out.bl⟩
end
end Go.Proofs.YtmfjmngebldanaaGreatDoor
