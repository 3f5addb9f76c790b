/- Ed, Eg. -/
import Derived.Test.YtokjnjdbnabchaaGreatDoorQGEp29
import Derived.Test.YtokjnjdbnabchaaGreatDoorQGEp30
import Derived.Test.YtokjnjdbnabchaaGreatDoorQGEp32
set_option maxRecDepth 100000
set_option maxHeartbeats 4000000
namespace Go.Proofs.YtokjnjdbnabchaaGreatDoor
open Go.Lib renaming hid→jq
open Go.RowKit Go.Shelf
section
attribute [local go_sem] Oper.semAt_some
attribute [local go_sem ↓] Go.wp_at_zero Go.wp_at_succ
def ZbV(m:Ky×Ky->Option Fr)(a b:Ky):Fr×Bool:=if a=b then(Qd 1,true) else((m (a,b)).getD Fr.zero,(m (a,b)).isSome)
def XZ(r:Fr×Bool)(w:World)(e:Ending)(w':World):Prop:=e=.returned (.tuple #[Qj r.1,.bool r.2])/\Below w.1.size w w'
theorem ZaI(b n:Nat)(m:Ky×Ky->Option Fr)(x y:Ky)(w:World)(hp:Env w)(hb:PmB w b n (fun x=>(m x).map Qj))(hx:x.length<=maxLen)(hy:y.length<=maxLen):
 Calls Tryz.prog 46 #[.map (some b),.string ⟨x.toArray⟩,.string ⟨y.toArray⟩] w (XZ (ZbV m x y) w):=by
 have HON:=jq (fun W (hW:Pow W)=>ZbI W hW);have H:=jq (Kp.start hp);have HM:=jq hb;have HPO:=jq (show XZ (ZbV m x y) w=fun e w'=>e=.returned (.tuple #[Qj (ZbV m x y).1,.bool (ZbV m x y).2])/\Below w.1.size w w' from rfl);generalize XZ (ZbV m x y) w=post at*;have HK:=jq (H.out.new w.1.size rfl #[.string ⟨#[]⟩,.string ⟨#[]⟩] 28);have HM1:=jq (HM.out.alloc (.cells #[.string ⟨#[]⟩,.string ⟨#[]⟩] 28));clear hp hb;unfold Qi Qj S at HON
 by_cases e:x=y
 ·subst e;rw[show ZbV m x x=(Qd 1,true) from if_pos rfl] at HPO;generalize Qd 1=res at*;have he:(x==x)=true:=by simp
  go_enter Tryz.func46,Tryz.ntmps46
  go_upto_region 2 with (fail)
  generalize w.alloc _=W1 at*;go_wp2_with (go_at_call 87;refine(HON.out _ HK.out.po).mono ?_;rintro e w2 ⟨rfl,hb2⟩;have HK2:=jq (HK.out.here hb2);have c0:=HK2.out.c 0 0 rfl rfl;have c1:=HK2.out.c 0 1 rfl rfl;have f0:=HK2.out.f 0 0 rfl;have f1:=HK2.out.f 0 1 rfl;clear hb2)
  refine bodyPost_ret (v:=.tuple #[.agg #[.string ⟨res.n.toArray⟩,.string ⟨res.d.toArray⟩],.bool true]) (by simp[results,Tryz.results46,go_sem,c0,c1]) rfl ?_;rw[HPO.out];exact⟨rfl,((HK2.out.set 0 0 rfl _).set 0 1 rfl _).bl⟩
 ·rw[show ZbV m x y=((m (x,y)).getD Fr.zero,(m (x,y)).isSome) from if_neg e] at HPO;have he:(x==y)=false:=by simp[e]
  have HLK:=jq (fun W (hW:PmB W b n (fun x=>(m x).map Qj))=>hW.lookOk (t:=80) (e:=28) Tryz.underlying80 (YU W) (x:=(x,y)) ⟨hx,hy⟩);rw[show((m (x,y)).map Qj).getD (Qj Fr.zero)=Qj ((m (x,y)).getD Fr.zero) by cases m (x,y)<;>rfl,Option.isSome_map] at HLK;generalize (m (x,y)).getD Fr.zero=res at*;generalize (m (x,y)).isSome=z at*;clear e hx hy HON;go_enter Tryz.func46,Tryz.ntmps46
  go_upto_region 3 with (fail)
  generalize w.alloc _=W1 at*;have hlk:=HLK.out W1 HM1.out;simp only[pv,Qj,S] at hlk;have HK2:=jq (HK.out.new W1.1.size rfl (XG res) 28);unfold XG at HK2;go_upto_region 4 with (fail)
  generalize W1.alloc _=W2 at*;generalize W1.1.size=b2 at*;clear hlk HLK HK HM1 HM;have c0:=HK2.out.c 1 0 rfl rfl;have c1:=HK2.out.c 1 1 rfl rfl;have d0:=HK2.out.c 0 0 rfl rfl;have d1:=HK2.out.c 0 1 rfl rfl;have f0:=HK2.out.f 1 0 rfl;have f1:=HK2.out.f 1 1 rfl;go_wp2_with fail
  refine bodyPost_ret (v:=.tuple #[.agg #[.string ⟨res.n.toArray⟩,.string ⟨res.d.toArray⟩],.bool z]) (by simp[results,Tryz.results46,go_sem,c0,c1]) rfl ?_;rw[HPO.out];exact⟨rfl,((HK2.out.set 1 0 rfl _).set 1 1 rfl _).bl⟩
theorem Jo(b n D:Nat)(m:Ky×Ky->Option Fr)(codes:List Ky)(x y:Ky)(w:World)(hp:Env w)(hb:PmB w b n (fun x=>(m x).map Qj))(hn:n<=20000)(hsh:∀x,(m x).isSome=true->JY x)(hx:x.length<=maxLen)(hy:y.length<=maxLen)(hc:CdM m codes)
 (hD:1<=D) (hnD:(n+1)*D<=15000) (hm:∀x r,m x=some r->RbF D r) (hpt:∀s∈XK m codes x y,s.length<=maxLen):
 Calls Tryz.prog 51 #[.map (some b),.string ⟨x.toArray⟩,.string ⟨y.toArray⟩] w (XZ (ZbQ m (XK m codes x y),decide (XK m codes x y≠[])) w):=by
 have HON:=jq (fun W (hW:Pow W)=>ZbI W hW);have H:=jq (Kp.start hp);have HM:=jq (fun W (hW:Below w.1.size w W)=>hb.here hW);have HPA:=jq (fun W (hW:Below w.1.size w W)=>Zap b n m codes x y W (hp.here hW) (hb.here hW) hn hsh hx hy hc);have HPO:=jq (show XZ (ZbQ m (XK m codes x y),decide (XK m codes x y≠[])) w=fun e w'=>e=.returned (.tuple #[Qj (Qd (JH m (XK m codes x y) ((XK m codes x y).length-1))),.bool (decide (XK m codes x y≠[]))])/\Below w.1.size w w' from rfl);generalize XZ (ZbQ m (XK m codes x y),decide (XK m codes x y≠[])) w=post at*;have HK:=jq (H.out.new w.1.size rfl #[.string ⟨#[]⟩,.string ⟨#[]⟩] 28);have HRB:=jq (fun l k=>ZbP (l:=l) hD hm k);have HRM:=jq hm;have HPT:=jq (show ∀s1 s2,s1∈XK m codes x y->s2∈XK m codes x y->JY (s1,s2) from fun s1 s2 h1 h2=>⟨hpt s1 h1,hpt s2 h2⟩);have HDD:=jq (And.intro hD hnD);clear hp hb hD hnD hm hc hpt;generalize XK m codes x y=l at*;unfold Qi Qj S at HON;go_enter Tryz.func51,Tryz.ntmps51
 go_upto_region 1 with (fail)
 obtain⟨b0,hb0⟩:∃b0,w.1.size=b0:=⟨_,rfl⟩
 have HB0:=jq hb0;rw[hb0] at HK ⊢;generalize w.alloc _=W1 at*;clear hb0;go_wp2_with fail
 refine(HPA.out W1 HK.out.bl).mono ?_;rintro e w2 ⟨A2,c2,rfl,hs2,hl2,hb2⟩;have HS2:=jq hs2;have HL2:=jq hl2;have HK2:=jq (HK.out.here hb2);clear hs2 hl2 hb2 HK HPA;obtain⟨ll,hll⟩:∃ll,l.length=ll:=⟨_,rfl⟩
 have HLL:=jq hll;rw[hll] at HS2 HL2 ⊢;clear hll;go_wp2_with fail
 refine(HON.out _ HK2.out.po).mono ?_;rintro e w3 ⟨rfl,hb3⟩;have HK3:=jq ((HK2.out.here hb3).new w3.1.size rfl (XG (Qd 1)) 28);have HS3:=jq (Sl.below (Sl.here HS2.out hb3) ((Below.refl w3.1.size w3).alloc (Nat.le_refl _) (.cells (XG (Qd 1)) 28)));unfold XG at HK3 HS3;clear hb3 HK2 HS2;go_upto_region 3 with (fail)
 generalize w3.alloc _=W3 at*;generalize w3.1.size=b9 at*;go_wp2_with fail
 go_loopw [10] (fun i wr=>∃k:Nat,(k=0\/k+1<=ll)/\i=.int .i64 ((k:Int)+1)/\Hid (Kp w [(b9,XG (Qd (JH m l k)),28),(b0,#[.string ⟨#[]⟩,.string ⟨#[]⟩],28)] wr)/\Hid (Below b9 W3 wr)) (fun i _=>ll+1-(intOf i).toNat)
 case atStart=>exact⟨0,.inl rfl,rfl,HK3,Below.refl _ _⟩
 case round=>
  clear HK3;obtain⟨k,hk,rfl,HK,HB⟩:=hrel
  have hl2:=HL2.out;unfold XG at HK
  by_cases hlt:k+1<ll
  ·obtain⟨bl,ol,rfl,hbl,hcell⟩:=(Sl.below HS3.out HB.out).2 (by omega)
   have hk1:k<l.length:=by rw[HLL.out];omega
   have hk2:k+1<l.length:=by rw[HLL.out];omega
   obtain⟨s1,hs1⟩:∃s,l[k]?=some s:=⟨_,List.getElem?_eq_getElem hk1⟩
   obtain⟨s2,hs2⟩:∃s,l[k+1]?=some s:=⟨_,List.getElem?_eq_getElem hk2⟩
   have d1:wr.cell? ⟨bl,ol+k,none⟩=some (.string ⟨s1.toArray⟩):=by have h:=hcell k s1 hs1 0 _ rfl;rwa [Nat.mul_one,Nat.add_zero] at h
   have d2:wr.cell? ⟨bl,ol+(k+1),none⟩=some (.string ⟨s2.toArray⟩):=by have h:=hcell (k+1) s2 hs2 0 _ rfl;rwa [Nat.mul_one,Nat.add_zero] at h
   have HED:=jq (show edF m l k=(m (s1,s2)).getD Fr.zero by unfold edF;rw[List.getD_eq_getElem?_getD,List.getD_eq_getElem?_getD,hs1,hs2];rfl);have HPS:=jq (show JH m l (k+1)=JH m l k*(edF m l k).rat from rfl);have hlk:=(HM.out wr HK.out.bl).drew.look (t:=80) (e:=28) (x:=(s1,s2)) Tryz.underlying80 (YU wr.drew) (HPT.out s1 s2 (List.mem_of_getElem? hs1) (List.mem_of_getElem? hs2));rw[show((m (s1,s2)).map Qj).getD (Qj Fr.zero)=Qj ((m (s1,s2)).getD Fr.zero) by cases m (s1,s2)<;>rfl,<-HED.out] at hlk
   have HSZ:=jq (show(Qd (JH m l k)).Sz 20000/\(edF m l k).Sz 20000 from⟨Yh (HRB.out l k) (by
    have h1:k*D<=(n+1)*D:=Nat.mul_le_mul_right D (by omega);have:=HDD.out.2
    omega),by
    rw[HED.out]
    cases h:m (s1,s2) with
    |none=>exact⟨by simp[Fr.zero],by simp[Fr.zero]⟩
    |some r=>exact(HRM.out _ _ h).2.more (by omega)⟩)
   have HMU:=jq (fun W (hW:Pow W)=>JS (Qd (JH m l k)) (edF m l k) W hW HSZ.out.1 HSZ.out.2);rw[QU,<-HPS.out] at HMU;have c0:=HK.out.c 0 0 rfl rfl;have c1:=HK.out.c 0 1 rfl rfl;have iw1:IntKind.i64.wrap ((k:Int)+1-1)=(k:Int):=by rw[show(k:Int)+1-1=(k:Int) by omega];exact IntWalk.i64_in _ (by omega)
   have iw0:IntKind.i64.wrap (k:Int)=(k:Int):=IntWalk.i64_in _ (by omega);have iw2:(k:Int)+1-1=(k:Int):=by omega
   have i1:(0:Int)<=(k:Int):=by omega
   have i2:(k:Int)<(ll:Int):=by omega
   have i3:(k:Int)+1<(ll:Int):=by omega
   have i4:(0:Int)<=(k:Int)+1:=by omega
   have i5:((k:Int)+1).toNat=k+1:=by omega
   clear hbl hcell hs1 hs2 hk1 hk2;unfold Qi at HMU;unfold Qj S at HMU;simp only[pv,Qj,S] at hlk;generalize edF m l k=ed at*;generalize Qd (JH m l k)=fk at*;generalize hfn:Qd (JH m l (k+1))=fn at*;have HFN:=jq hfn;clear hfn;go_upto_region 6 with (fail)
   refine ZeR 13 (by kernel_rfl) (by kernel_rfl) ?_;simp only[List.take_succ_cons,List.take_zero,List.drop_succ_cons,List.drop_zero]
   repeat still_step
   refine wpStill_nil ?_;have HK2:=jq HK.out.drew;go_wp2_with (go_at_call 23;refine(HMU.out _ HK2.out.po).mono ?_;rintro e w5 ⟨rfl,hb5⟩;have HK5:=jq (HK2.out.here hb5);have HB5:=jq (HB.out.drew.trans (hb5.mono (Nat.le_of_lt (HK2.out.lt 0 rfl))));have e0:=HK5.out.c 0 0 rfl rfl;have e1:=HK5.out.c 0 1 rfl rfl;have f0:=HK5.out.f 0 0 rfl;have f1:=HK5.out.f 0 1 rfl;clear hb5)
   go_roundw
   case rel=>exact⟨k+1,.inr (by omega),by go_num,(show Kp _ _ _ by rw[HFN.out];exact HK5.out.set2 _ _),(HB5.out.setCell (p:=⟨b9,0,none⟩) (Nat.le_refl _) _).setCell (p:=⟨b9,1,none⟩) (Nat.le_refl _) _⟩
   case measure=>simp[intOf];omega
  ·have HKE:=jq (show k=ll-1 by omega);rw[HLL.out,<-HKE.out] at HPO;have c0:=HK.out.c 0 0 rfl rfl;have c1:=HK.out.c 0 1 rfl rfl;have d0:=HK.out.c 1 0 rfl rfl;have d1:=HK.out.c 1 1 rfl rfl;have f0:=HK.out.f 1 0 rfl;have f1:=HK.out.f 1 1 rfl;have HDE:=jq (show decide (l≠[])=decide (0<ll) by rw[<-HLL.out,decide_eq_decide];exact List.length_pos_iff.symm);have HNE:=jq (HK.out.ne 0 1 rfl rfl (by decide));rw[HDE.out] at HPO;generalize Qd (JH m l k)=fk at*;have i3:¬(k:Int)+1<(ll:Int):=by omega
   go_wp2_with fail
   refine bodyPost_ret (v:=.tuple #[.agg #[.string ⟨fk.n.toArray⟩,.string ⟨fk.d.toArray⟩],.bool (decide (0<ll))]) (by simp[results,Tryz.results51,go_sem,d0,d1]) rfl ?_;rw[HPO.out];exact⟨rfl,((HK.out.set 1 0 rfl _).set 1 1 rfl _).bl⟩
theorem rbI{k:Int}{K:Nat}(h:k.natAbs<10^K)(hK:1<=K):RB K ((k:Int):Rat):=by
 refine⟨by simpa using h,?_⟩;have:10^1<=10^K:=Nat.pow_le_pow_right (by omega) hK
 simp
 omega
def Zaq(r:List UInt8×Bool)(w:World)(e:Ending)(w':World):Prop:=e=.returned (.tuple #[S r.1,.bool r.2])/\Below w.1.size w w'
theorem ZcQ(b n D:Nat)(m:Ky×Ky->Option Fr)(codes:List Ky)(x a y:Ky)(w:World)(hp:Env w)(hb:PmB w b n (fun x=>(m x).map Qj))(hn:n<=20000)(hsh:∀x,(m x).isSome=true->JY x)(hx:x.length<=maxLen)(ha:a.length<=1000)(hy:y.length<=maxLen)(hc:CdM m codes)
 (hD:1<=D) (hnD:(n+1)*D<=15000) (hm:∀x r,m x=some r->RbF D r) (hpt:∀s∈XK m codes x y,s.length<=maxLen) (hpl:(XK m codes x y).length<=n+1):
 Calls Tryz.prog 63 #[.map (some b),.agg #[.string ⟨x.toArray⟩,.string ⟨a.toArray⟩],.string ⟨y.toArray⟩] w (Zaq (ZdA m (XK m codes x y) a,decide (XK m codes x y≠[])) w):=by
 have H:=jq ((Kp.start hp).new w.1.size rfl #[.string ⟨x.toArray⟩,.string ⟨a.toArray⟩] 57);have HRT:=jq (fun W (hW:Below w.1.size w W)=>Jo b n D m codes x y W (hp.here hW) (hb.here hW) hn hsh hx hy hc hD hnD hm hpt)
 have HRB:=jq (show RB 15001 (JH m (XK m codes x y) ((XK m codes x y).length-1)) from(ZbP hD hm _).more (by
  have h1:((XK m codes x y).length-1)*D<=(n+1)*D:=Nat.mul_le_mul_right D (by omega);omega))
 have HPO:=jq (show Zaq (ZdA m (XK m codes x y) a,decide (XK m codes x y≠[])) w=fun e w'=>e=.returned (.tuple #[.string ⟨(Qb (rnd (JH m (XK m codes x y) ((XK m codes x y).length-1)*(val a:Rat)))).toArray⟩,.bool (decide (XK m codes x y≠[]))])/\Below w.1.size w w' from rfl);generalize Zaq (ZdA m (XK m codes x y) a,decide (XK m codes x y≠[])) w=post at*;have HVA:=jq (show RB 1001 ((val a:Int):Rat) from RB.more (rbI (K:=a.length+1) (Nat.lt_of_lt_of_le (VL a) (Nat.pow_le_pow_right (by decide) (Nat.le_succ _))) (by omega)) (by omega));have HLA:=jq ha;unfold ZbQ at HRT;clear hp hb hsh hx ha hy hc hD hnD hm hpt hpl;generalize hq:JH m (XK m codes x y) ((XK m codes x y).length-1)=q at*;generalize decide (XK m codes x y≠[])=z at*;clear hq;have HS1:=jq (show(Qd q).Sz 20000/\(Qd ((val a:Int):Rat)).Sz 20000/\(Qd (q*((val a:Int):Rat))).Sz 20000 from⟨Yh HRB.out (by omega),Yh HVA.out (by omega),Yh (Zd7 HRB.out HVA.out) (by omega)⟩);have HOF:=jq (fun W (hW:Pow W)=>JC a W hW (by have:=HLA.out;omega));have HMU:=jq (fun W (hW:Pow W)=>JS (Qd q) (Qd ((val a:Int):Rat)) W hW HS1.out.1 HS1.out.2.1);rw[QU,QU] at HMU;have HRD:=jq (fun W (hW:Env W)=>ZeT (Qd (q*((val a:Int):Rat))) HS1.out.2.2 W hW);rw[QU] at HRD;generalize rnd (q*((val a:Int):Rat))=rr at*;generalize Qd (q*((val a:Int):Rat))=f3 at*;generalize Qd ((val a:Int):Rat)=f2 at*;generalize Qd q=f1 at*;unfold XZ at HRT;unfold Qi at HOF HMU;unfold Qj S at*
 go_enter Tryz.func63,Tryz.ntmps63
 go_upto_region 1 with (fail)
 obtain⟨b0,hb0⟩:∃b0,w.1.size=b0:=⟨_,rfl⟩
 rw[hb0] at H ⊢;generalize w.alloc _=W1 at*;have c0:=H.out.c 0 0 rfl rfl;have c1:=H.out.c 0 1 rfl rfl;go_wp2_with fail
 refine(HRT.out W1 (by subst hb0;exact H.out.bl)).mono ?_;rintro e w2 ⟨rfl,hb2⟩;have HK2:=jq ((H.out.here hb2).new w2.1.size rfl (XG f1) 28);unfold XG at HK2;clear hb2 c0 c1 H;go_upto_region 2 with (fail)
 generalize w2.alloc _=W2 at*;generalize w2.1.size=b9 at*;have d0:=HK2.out.c 0 0 rfl rfl;have d1:=HK2.out.c 0 1 rfl rfl;have e1:=HK2.out.c 1 1 rfl rfl;have hS:Hid (∀X,Bz W2 X->X.cell? ⟨b9,0,none⟩=some (.string ⟨f1.n.toArray⟩)/\X.cell? ⟨b9,1,none⟩=some (.string ⟨f1.d.toArray⟩)/\X.cell? ⟨b0,1,none⟩=some (.string ⟨a.toArray⟩)):=jq fun X hX=>have h:=HK2.out.here hX;⟨h.c 0 0 rfl rfl,h.c 0 1 rfl rfl,h.c 1 1 rfl rfl⟩
 have hE:Hid (∀X,Bz W2 X->Env X):=jq fun X hX=>(HK2.out.here hX).pw
 have hP:Hid (∀X,Bz W2 X->Pow X):=jq fun X hX=>(HK2.out.here hX).po
 have hz0:Bz W2 W2:=Bz.refl W2;clear HRT
 go_region_held3 (fun X=>X.cell? ⟨b9,0,none⟩=some (.string ⟨f1.n.toArray⟩)/\X.cell? ⟨b9,1,none⟩=some (.string ⟨f1.d.toArray⟩)/\X.cell? ⟨b0,1,none⟩=some (.string ⟨a.toArray⟩)) (first|(exact hS.out _ (by repeat' (first|assumption|exact Bz.refl _|refine Bz.drew ?_|refine Bz.alloc ?_ _|refine Bz.set ?_ (by first|assumption|exact Nat.le_refl _|exact Bz.size (by assumption)) _ _)))|go_keep)
  (first
    |(go_at_call 19;refine(HOF.out _ (hP.out _ (by repeat' (first|assumption|exact Bz.refl _|refine Bz.drew ?_|refine Bz.alloc ?_ _|refine Bz.set ?_ (by first|assumption|exact Nat.le_refl _|exact Bz.size (by assumption)) _ _)))).mono ?_;rintro e w3 ⟨rfl,hb3⟩;have hz1:Bz W2 w3:=Bz.call (by repeat' (first|assumption|exact Bz.refl _|refine Bz.drew ?_|refine Bz.alloc ?_ _|refine Bz.set ?_ (by first|assumption|exact Nat.le_refl _|exact Bz.size (by assumption)) _ _)) hb3)
    |(go_at_call 23;refine(HMU.out _ (hP.out _ (by repeat' (first|assumption|exact Bz.refl _|refine Bz.drew ?_|refine Bz.alloc ?_ _|refine Bz.set ?_ (by first|assumption|exact Nat.le_refl _|exact Bz.size (by assumption)) _ _)))).mono ?_;rintro e w4 ⟨rfl,hb4⟩;have hz2:Bz W2 w4:=Bz.call (by repeat' (first|assumption|exact Bz.refl _|refine Bz.drew ?_|refine Bz.alloc ?_ _|refine Bz.set ?_ (by first|assumption|exact Nat.le_refl _|exact Bz.size (by assumption)) _ _)) hb4)
    |(go_at_call 109;refine(HRD.out _ (hE.out _ (by repeat' (first|assumption|exact Bz.refl _|refine Bz.drew ?_|refine Bz.alloc ?_ _|refine Bz.set ?_ (by first|assumption|exact Nat.le_refl _|exact Bz.size (by assumption)) _ _)))).mono ?_;rintro e w5 ⟨rfl,hb5⟩;have hz3:Bz W2 w5:=Bz.call (by repeat' (first|assumption|exact Bz.refl _|refine Bz.drew ?_|refine Bz.alloc ?_ _|refine Bz.set ?_ (by first|assumption|exact Nat.le_refl _|exact Bz.size (by assumption)) _ _)) hb5))
 all_goals
  go_wp2_with fail
  first|go_ret2|skip
  rw[HPO.out];refine⟨rfl,HK2.out.bl.trans (Below.mono ?_ HK2.out.bl.size)⟩
  show Bz W2 _
  exact(by repeat' (first|assumption|exact Bz.refl _|refine Bz.drew ?_|refine Bz.alloc ?_ _|refine Bz.set ?_ (by first|assumption|exact Nat.le_refl _|exact Bz.size (by assumption)) _ _))
end
section
attribute [local go_sem] Oper.semAt_some
attribute [local go_sem ↓] Go.wp_at_zero Go.wp_at_succ
theorem ZdE(s:List UInt8)(w:World)(hp:Env w)(hl:s.length<=maxLen):Calls Tryz.prog 84 (#[S s]++#[]) w fun e w'=>e=.returned (.bool (!Qp s))/\Below w.1.size w w':=by
 have HC:=jq (ZdD s w hp hl);clear hp hl;unfold S;go_enter Tryz.func84,Tryz.ntmps84
 go_wp2_with fail
 refine HC.out.mono ?_;rintro e w1 ⟨rfl,hb1⟩;go_wp2_with fail
 first|go_ret|skip
 exact⟨rfl,hb1⟩
theorem Jp(A A2:Option Addr)(n c n2 c2:Nat)(xs:List Fx)(d:Int)(cs:List Ky)(w:World)(hp:Env w)(hs:Fxs w w.1.size A n xs)(hn:n<=1000000000)(hc:Vc w w.1.size A2 n2 cs)(hn2:n2<=1000000000)(hl:∀s∈cs,s.length<=maxLen):
 Calls Tryz.prog 44 #[.slice A n c,.int .i64 d,.slice A2 n2 c2] w fun e w'=>e=.returned (.int .i64 (QA (xs.map (·.1)) d cs))/\Below w.1.size w w':=by
 have hof:QA (xs.map (·.1)) d cs=if Va (xs.map (·.1))≠0 then 1 else if d< -25567\/84005<d then 13 else if cs.any (fun s=> !Qp s)=true then 12 else 0:=rfl
 have HCK:=jq (Jn A n c xs w hp hs hn);have HCS:=jq (fun W (hW:Below w.1.size w W)=>YK 84 #[] (fun s=> !Qp s) A2 n2 c2 cs W (fun args w=>by rfl) (fun W2 s hs hb=>ZdE s W2 ((hp.here hW).here hb) (hl s hs)) (hc.here hW) hn2);generalize QA (xs.map (·.1)) d cs=res at*;generalize Va (xs.map (·.1))=lc at*;generalize cs.any (fun s=> !Qp s)=bd at*;have HRS:=jq hof;clear hp hs hc hl hof
 by_cases h0:lc=0
 case neg=>
  rw[if_pos h0] at HRS;have hz:(lc !=0)=true:=by simp[h0]
  clear h0;go_enter Tryz.func44,Tryz.ntmps44
  go_wp2_with fail
  refine HCK.out.mono ?_;rintro e w1 ⟨rfl,hb1⟩;go_wp2_with fail
  first|go_ret|skip
  rw[HRS.out];exact⟨rfl,hb1⟩
 rw[if_neg (by simpa using h0)] at HRS;subst h0
 by_cases h1:d< -25567
 ·rw[if_pos (.inl h1)] at HRS;go_enter Tryz.func44,Tryz.ntmps44
  go_wp2_with fail
  refine HCK.out.mono ?_;rintro e w1 ⟨rfl,hb1⟩;go_wp2_with fail
  first|go_ret|skip
  rw[HRS.out];exact⟨rfl,hb1⟩
 by_cases h2:84005<d
 ·rw[if_pos (.inr h2)] at HRS;go_enter Tryz.func44,Tryz.ntmps44
  go_wp2_with fail
  refine HCK.out.mono ?_;rintro e w1 ⟨rfl,hb1⟩;go_wp2_with fail
  first|go_ret|skip
  rw[HRS.out];exact⟨rfl,hb1⟩
 rw[if_neg (by omega)] at HRS;go_enter Tryz.func44,Tryz.ntmps44
 go_wp2_with fail
 refine HCK.out.mono ?_;rintro e w1 ⟨rfl,hb1⟩;have HB1:=jq hb1;clear hb1;go_wp2_with fail
 refine(HCS.out w1 HB1.out).mono ?_;rintro e w2 ⟨rfl,hb2⟩;have HB2:=jq (HB1.out.trans (hb2.mono HB1.out.size))
 cases bd<;>go_wp2_with fail
 all_goals
  first|go_ret|skip
  rw[HRS.out];exact⟨rfl,HB2.out⟩
end
end Go.Proofs.YtokjnjdbnabchaaGreatDoor
