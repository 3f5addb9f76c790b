/- Er. -/
import Derived.Test.YtokjnjdbnabchaaGreatDoorQGEp11
import Derived.Test.YtokjnjdbnabchaaGreatDoorQGEp35
import Derived.Test.YtokjnjdbnabchaaGreatDoorQGEp13
set_option maxRecDepth 100000
set_option maxHeartbeats 4000000
namespace Go.Proofs.YtokjnjdbnabchaaGreatDoor
open Go.Lib renaming hid→jq
section
open Go.RowKit Go.Shelf
attribute [local go_sem] Oper.semAt_some
attribute [local go_sem ↓] Go.wp_at_zero Go.wp_at_succ Qs QG
noncomputable def putW(b:Nat)(x:Ky×Ky)(f:Fr)(W:World):World:=Classical.epsilon fun w'=>(Instr.mapUpdate 80 (.map (some b)) (pv x) (Qj f)).run Tryz.prog W=.ok () w'
theorem PmB.putW{w:World}{b n:Nat}{m:Ky×Ky->Option Value}{x:Ky×Ky}(h:PmB w b n m)(hn:n<maxLen)(hx:JY x)(f:Fr):
 (Instr.mapUpdate 80 (.map (some b)) (pv x) (Qj f)).run Tryz.prog w=.ok () (putW b x f w)/\PmB (putW b x f w) b (n+1) (fun j=>if j=x then some (Qj f) else m j)/\w.grownBy (putW b x f w) (some b):=by
 obtain⟨w',h1,h2,h3⟩:=h.put (t:=80) (e:=28) Tryz.underlying80 hn hx (Qj f)
 have h4:(Instr.mapUpdate 80 (.map (some b)) (pv x) (Qj f)).run Tryz.prog w=.ok () (Go.Proofs.YtokjnjdbnabchaaGreatDoor.putW b x f w):=Classical.epsilon_spec (p:=fun w'=>(Instr.mapUpdate 80 (.map (some b)) (pv x) (Qj f)).run Tryz.prog w=.ok () w') ⟨w',h1⟩
 have h5:w'=Go.Proofs.YtokjnjdbnabchaaGreatDoor.putW b x f w:=by
  rw[h1] at h4;injection h4
 rw[<-h5];exact⟨h1,h2,h3⟩
theorem YU(w:World):(zeroValue 28).run Tryz.prog w=.ok (Qj Fr.zero) w:=by kernel_rfl
theorem Zhq:(Qd 1).rat=1:=QU 1
theorem ZbI(w:World)(hp:Pow w):Calls Tryz.prog 87 #[] w (Qi (Qd 1) w):=by
 have hbA:Below w.1.size w (w.alloc (.cells #[.string ⟨#[]⟩,.string ⟨#[]⟩] 28)):=(Below.refl _ _).alloc (Nat.le_refl _) _;have HMD:=jq (show Calls Tryz.prog 19 #[.string ⟨#[49]⟩] (w.alloc (.cells #[.string ⟨#[]⟩,.string ⟨#[]⟩] 28)) (Qi (Qd ((val [49]:Int):Rat)) (w.alloc (.cells #[.string ⟨#[]⟩,.string ⟨#[]⟩] 28))) from JC [49] _ (hp.here hbA) (by simp));rw[YP] at HMD;have HPO:=jq (show Qi (Qd 1) w=fun e w'=>e=.returned (Qj (Qd 1))/\Below w.1.size w w' from rfl);generalize Qi (Qd 1) w=post at*;rw[show Qd ((1:Int):Rat)=Qd 1 from rfl] at HMD;generalize Qd 1=res at*;have HB:=jq (show FrB (w.alloc (.cells #[.string ⟨#[]⟩,.string ⟨#[]⟩] 28)) w.1.size Fr.zero from FrB.new w Fr.zero);have HBA:=jq hbA;clear hp hbA;unfold Qj at*
 unfold S at*
 go_enter Tryz.func87,Tryz.ntmps87
 go_wp2_with fail
 generalize w.alloc _=W at*;refine HMD.out.mono ?_;rintro e w1 ⟨rfl,hb1⟩;unfold Qj S;have HB1:=jq (HB.out.here hb1);obtain⟨c0,c1⟩:=HB1.out.cells
 have f0:=HB1.out.frozen 0;have f1:=HB1.out.frozen 1;have hb01:=HBA.out.trans (hb1.mono HBA.out.size);go_wp2_with fail
 refine bodyPost_ret (v:=.agg #[.string ⟨res.n.toArray⟩,.string ⟨res.d.toArray⟩]) (by simp[results,Tryz.results87,go_sem,c0,c1]) rfl ?_;rw[HPO.out];exact⟨rfl,(hb01.setCell (p:=⟨w.1.size,0,none⟩) (Nat.le_refl _) _).setCell (p:=⟨w.1.size,1,none⟩) (Nat.le_refl _) _⟩
def pvB(x:Ky×Ky):Array Value:=#[.string ⟨x.1.toArray⟩,.string ⟨x.2.toArray⟩]
def XG(f:Fr):Array Value:=#[.string ⟨f.n.toArray⟩,.string ⟨f.d.toArray⟩]
theorem Zab(A:Option Addr)(n c:Nat)(xs:List Fx)(d:Int)(w:World)(hp:Env w)(hs:Fxs w w.1.size A n xs)(hn:n<=100000):
 Calls Tryz.prog 45 #[.slice A n c,.int .i64 d] w fun e w'=>∃b,e=.returned (.map (some b))/\PmB w' b (2*n) (fun p=>(QP d (xs.map (·.1)) p).map Qj)/\w.1.size<=b/\Below w.1.size w w':=by
 have HS:=jq hs;have HNW:=jq hs.len;have H:=jq (Kp.start hp);clear hs hp;have hmm:= @run_makeMap Tryz.prog;have HM:=jq (ZdT w);have H1:=jq (H.out.alloc (.map #[] 0));clear H;go_enter Tryz.func45,Tryz.ntmps45
 go_wp2_with fail
 generalize hW:w.alloc (.map #[] 0)=W at*;obtain⟨p,hpw⟩:∃p,w.1.size=p:=⟨_,rfl⟩
 rw[hpw] at HM ⊢;have HP:=jq hpw;clear hpw hW
 go_loopw [7,17] (fun _ i wr=>∃(k:Nat),k<=n/\i=.int .i64 k/\Hid (Kp w [] wr)/\Hid (PmB wr p k (fun x=>(Jv d ((xs.map (·.1)).take k) x).map Qj))) (fun _ i _=>n-(intOf i).toNat)
 case atStart=>exact⟨0,Nat.zero_le _,rfl,H1,HM⟩
 case round=>
  clear H1 HM;obtain⟨k,hk,rfl,H,HM⟩:=hrel
  by_cases hlt:k<n
  ·obtain⟨b,off,f,v,rfl,hb,hx,hm,hr⟩:=(HS.out.below H.out.bl).at_ hlt
   have hld:=Xs hr;have hst:=fun cs (hc:cs.size=21)=>Yz wr f v (cs:=cs) hc
   have HQS:=jq (ZfJ (d:=d) (show(xs.map (·.1))[k]?=some f by rw[List.getElem?_map,hx];rfl));have HB:=jq (H.out.new wr.1.size rfl (Qe f v) 44);have HM2:=jq (HM.out.alloc (.cells (Qe f v) 44));have HKL:=jq (show JY (f.cur,f.other)/\k<maxLen by have h1:=hm.sz.cur;have h2:=hm.sz.other;unfold JY maxLen;simp only at h1 h2 ⊢; omega);clear hx hr hb hm HM;go_upto_region 5 with (fail)
   generalize wr.alloc (.cells (Qe f v) 44)=W1 at*;clear hld hst;generalize hbb:wr.1.size=b1 at*;clear hbb H;have c4:=HB.out.c 0 4 rfl (show(Qe f v)[4]?=some (.int .i64 f.kind) from rfl);have c3:=HB.out.c 0 3 rfl (show(Qe f v)[3]?=some (.int .i64 f.day) from rfl)
   by_cases hR:isR d f=true
   ·have HQ:=jq (show Jv d ((xs.map (·.1)).take (k+1))=fun x=>if x=(f.cur,f.other) then some f.ratio else Jv d ((xs.map (·.1)).take k) x by rw[HQS.out];unfold Yf;rw[if_pos hR]);have c7:=HB.out.c 0 7 rfl (show(Qe f v)[7]?=some (.string ⟨f.cur.toArray⟩) from rfl);have c6:=HB.out.c 0 6 rfl (show(Qe f v)[6]?=some (.string ⟨f.other.toArray⟩) from rfl);have c14:=HB.out.c 0 14 rfl (show(Qe f v)[14]?=some (.string ⟨f.ratio.n.toArray⟩) from rfl);have c15:=HB.out.c 0 15 rfl (show(Qe f v)[15]?=some (.string ⟨f.ratio.d.toArray⟩) from rfl);obtain⟨hput,HM3,hg⟩:=HM2.out.putW HKL.out.2 HKL.out.1 f.ratio
    have HK3:=jq (HB.out.bare.turn hg (by have:=HP.out;omega))
    have HM4:=jq (show PmB (putW p (f.cur,f.other) f.ratio W1) p (k+1) (fun x=>(Jv d ((xs.map (·.1)).take (k+1)) x).map Qj) by
     rw[HQ.out]
     have e:(fun x:Ky×Ky=>((if x=(f.cur,f.other) then some f.ratio else Jv d ((xs.map (·.1)).take k) x):Option Fr).map Qj)=fun j=>if j=(f.cur,f.other) then some (Qj f.ratio) else(Jv d ((xs.map (·.1)).take k) j).map Qj:=by
      funext x;by_cases e:x=(f.cur,f.other)<;>simp[e]
     rw[e];exact HM3)
    unfold isR at hR;rw[Bool.and_eq_true,beq_iff_eq,decide_eq_true_eq] at hR;obtain⟨hk16,hdd⟩:=hR
    rw[hk16] at c4;simp only[pv,Qj,S] at hput;clear HM3 hg HQS HQ hk16;go_wp2_with fail
    go_roundw
    case rel=>exact⟨k+1,by omega,by go_num,HK3,HM4⟩
    case measure=>simp[intOf];omega
   ·have HM4:=jq (show PmB W1 p (k+1) (fun x=>(Jv d ((xs.map (·.1)).take (k+1)) x).map Qj) by
     rw[HQS.out];unfold Yf;rw[if_neg hR];exact HM2.out.more (Nat.le_succ _))
    have HK3:=jq HB.out.bare;have hR2:f.kind=16->¬f.day<=d:=fun h1 h2=>hR (by unfold isR;simp[h1,h2])
    clear HQS hR
    by_cases h16:f.kind=16
    ·have hdd:=hR2 h16;rw[h16] at c4;clear hR2 h16;go_wp2_with fail
     go_roundw
     case rel=>exact⟨k+1,by omega,by go_num,HK3,HM4⟩
     case measure=>simp[intOf];omega
    ·have hk16:(f.kind==16)=false:=beq_false_of_ne h16;clear hR2 h16;go_wp2_with fail
     go_roundw
     case rel=>exact⟨k+1,by omega,by go_num,HK3,HM4⟩
     case measure=>simp[intOf];omega
  ·obtain rfl:k=n:=by omega
   have HMF:=jq (show PmB wr p k (fun x=>(Jv d (xs.map (·.1)) x).map Qj) by
    have h:=HM.out
    rwa [List.take_of_length_le (by rw[List.length_map,<-HNW.out];exact Nat.le_refl _)] at h)
   have HMA:=jq (HMF.out.alloc (.map #[] 0));have HQ0:=jq (ZdT wr);have HK1:=jq (H.out.alloc (.map #[] 0));have HPQ:=jq (show p<wr.1.size/\w.1.size<=wr.1.size from⟨HMF.out.lt,H.out.bl.size⟩);have HSZ:=jq (show(wr.alloc (.map #[] 0)).heap.size=wr.1.size+1 by simp);clear HM HMF H;go_upto_region 9 with (fail)
   generalize wr.alloc (.map #[] 0)=W2 at*;obtain⟨q,hq⟩:∃q,wr.1.size=q:=⟨_,rfl⟩
   rw[hq] at HQ0 HPQ HSZ ⊢;clear hq
   go_wp2_with (first
    |(at_range;refine Yq rfl _ rfl Tryz.underlying80 rfl HMA.out ?_;intro w0 cnt0 hr0 hc0 hg0 hs0)
    |go_in)
   go_frame
   rw[HSZ.out] at hr0 hs0 ⊢;have HR0:=jq hr0;have HQ1:=jq (HQ0.out.grown hg0 (by simp));have H0:=jq (show Kp w [] w0 from HK1.out.turned hg0 (B:=w.1.size) (fun r h=>by cases h) (Nat.le_refl _))
   have HSH:=jq (show ∀x r,Jv d (xs.map (·.1)) x=some r->JY x/\r.Sz 1000 from fun x r h=>by
    obtain⟨f,hf,_,rfl,rfl⟩:=ZbG h
    obtain⟨y,hy,rfl⟩:=List.mem_map.1 hf
    have h1:=(HS.out.all y hy).sz;exact⟨⟨Nat.le_trans h1.cur (by decide),Nat.le_trans h1.other (by decide)⟩,h1.ratio⟩)
   clear hr0 hg0 hs0 HQ0 HMA HK1;rw[show(fun x=>((Jv d (xs.map (·.1)) x).map Qj).isSome)=fun x=>(Jv d (xs.map (·.1)) x).isSome from funext fun x=>Option.isSome_map] at HR0;generalize hM:Jv d (xs.map (·.1))=M at*;have HQM:=jq hM;clear hM
   go_loopw [9,10,11,12,13] (fun _ _ _ _ _ wr=>∃(rem:Ky×Ky->Bool) (cnt no:Nat),Hid (Kp w [] wr)/\Hid (PmR wr p (q+1) k (fun x=>(M x).map Qj) rem cnt)/\Hid (PmB wr q no (fun x=>(Vb M rem x).map Qj))/\Hid (no+2*cnt<=2*k)) (fun _ _ _ _ _ wr=>wr.rangeLeft p (q+1))
   case atStart=>exact⟨_,cnt0,0,H0,HR0,(show PmB w0 q 0 (fun x=>(Vb M (fun x=>(M x).isSome) x).map Qj) by rw[Zdn];exact HQ1.out),(show 0+2*cnt0<=2*k by omega)⟩
   case round=>
    clear H0 HR0 HQ1;obtain⟨rem,cnt,no,H,HR,HQ,HN⟩:=hrel
    go_wp2_with (first
     |(at_next;refine YF rfl _ rfl rfl HR.out ?_ ?_)
     |go_in)
    ·intro hl0
     have HE:=jq (show PmB wr q (2*k) (fun x=>(rtM M x).map Qj) by
      rw[<-Zey (m:=M) (rem:=rem) fun x r h=>hl0 x.1 x.2 (HSH.out x r h).1];exact HQ.out.more (by have:=HN.out;omega))
     clear hl0;go_wp2_with fail
     first|go_ret|skip
     refine⟨q,rfl,?_,HPQ.out.2,H.out.bl⟩;have h:=HE.out;rw[<-HQM.out] at h;exact h
    ·intro xa xb v w1 cnt1 hx hrem r hMr hrv hr1 hlt1 hg1 hs1 hen;generalize hxe:(xa,xb)=x at*;clear hxe;subst hrv;have HK1:=jq (H.out.turn hg1 (by have:=HPQ.out;omega));have HQ1:=jq (HQ.out.grown hg1 (by simp));have HR1:=jq hr1;have HX:=jq (And.intro hx hMr);have HLT:=jq hlt1;clear hrem hr1 hlt1 hg1 hs1 hx hMr;unfold pv Qj S at hen;have HB3:=jq ((HK1.out.new w1.1.size rfl (pvB x) 122).new (w1.1.size+1) (by simp) (XG r) 28);have HQ3:=jq ((HQ1.out.alloc (.cells (pvB x) 122)).alloc (.cells (XG r) 28));have HR3:=jq ((HR1.out.grown (World.grownBy_alloc w1 (.cells (pvB x) 122) none) (by simp) (by simp)).grown (World.grownBy_alloc _ (.cells (XG r) 28) none) (by simp) (by simp));have HBS:=jq (show q+1<w1.1.size from HR1.out.lt);go_upto_region 12 with (fail)
     unfold pvB XG at HB3 HQ3 HR3;generalize (w1.alloc _).alloc _=W3 at*;generalize w1.1.size=b1 at*;clear hen HK1 HQ1 HR1;have c0:=HB3.out.c 0 0 rfl rfl;have c1:=HB3.out.c 0 1 rfl rfl;have c2:=HB3.out.c 1 0 rfl rfl;have c3:=HB3.out.c 1 1 rfl rfl;obtain⟨hput,hq4,hg4⟩:=HQ3.out.putW (by have:=HN.out;unfold maxLen;omega) HX.out.1 r
     have HQ4:=jq hq4
     have HB4:=jq (HB3.out.grow hg4 HPQ.out.2 (fun b hb=>by
      have h1:=HBS.out;simp only[List.mem_cons,List.not_mem_nil,or_false] at hb
      rcases hb with rfl|rfl<;>simp only<;>omega))
     have HR4:=jq (HR3.out.grown hg4 (by have:=HPQ.out;simp;omega) (by simp));simp only[pv,Qj,S] at hput;clear hq4 hg4 HB3 HQ3 HR3;go_upto_region 13 with (fail)
     generalize putW q x r W3=W4 at*;clear hput c0 c1 c2 c3;have c2:=HB4.out.c 1 0 rfl rfl;have c3:=HB4.out.c 1 1 rfl rfl;obtain⟨b3,hb3⟩:∃b3,W4.1.size=b3:=⟨_,rfl⟩
     have HB5:=jq (HB4.out.new b3 hb3.symm (pvB (sw x)) 122);have HQ5:=jq (HQ4.out.alloc (.cells (pvB (sw x)) 122));have HR5:=jq (HR4.out.grown (World.grownBy_alloc W4 (.cells (pvB (sw x)) 122) none) (by simp) (by simp));unfold pvB sw at HB5 HQ5 HR5
     dsimp only at HB5 HQ5 HR5
     go_upto_region 14 with (fail)
     generalize W4.alloc _=W5 at*;have HB3Q:=jq (show b3≠q from fun e=>by have:=HQ4.out.lt;rw[hb3,e] at this;exact Nat.lt_irrefl _ this);clear hb3 c2 c3 HQ4 HB4 HR4;have HXS:=jq (show JY (sw x) from⟨HX.out.1.2,HX.out.1.1⟩);have c0:=HB5.out.c 0 0 rfl rfl;have c1:=HB5.out.c 0 1 rfl rfl;have HB6:=jq (fun f0=>HB5.out.new W5.1.size rfl (XG f0) 28);have HQ6:=jq (fun f0=>HQ5.out.alloc (.cells (XG f0) 28));have HR6:=jq (fun f0=>HR5.out.grown (World.grownBy_alloc W5 (.cells (XG f0) 28) none) (by simp) (by simp));unfold XG at HB6 HQ6 HR6;have hlk:=HR5.out.map.lookOk (t:=80) (e:=28) Tryz.underlying80 (YU W5) HXS.out
     cases hms:M (sw x) with
     |some r2=>
      rw[hms] at hlk;simp only[pv,sw,Qj,S,Option.map_some,Option.getD_some,Option.isSome_some] at hlk;have HPM:=jq (Zez (rem:=rem) HX.out.2 (by rw[hms];rfl));go_upto_region 15 with (fail)
      have HB7:=jq (HB6.out r2).bare;have HQ7:=jq (HQ6.out r2);have HR7:=jq (HR6.out r2);generalize W5.alloc _=W6 at*;clear hlk HB6 HQ6 HR6 HB5 HQ5 HR5 c0 c1;go_wp2_with fail
      go_roundw
      case rel=>
       refine⟨_,cnt1,no+1,HB7,HR7,?_,(show no+1+2*cnt1<=2*k by have:=HN.out;have:=HLT.out;omega)⟩
       show PmB _ _ _ _
       rw[HPM.out];have h:=HQ7.out
       rwa [show(fun x_1=>((if x_1=x then some r else Vb M rem x_1):Option Fr).map Qj)=fun j=>if j=x then some (Qj r) else(Vb M rem j).map Qj from funext fun y=>by by_cases e:y=x<;>simp[e]]
      case measure=>rw[HR7.out.left,HR.out.left];exact HLT.out
     |none=>
      rw[hms] at hlk;simp only[pv,sw,Qj,S,Option.map_none,Option.getD_none,Option.isSome_none] at hlk;have HPM:=jq (ZfM (rem:=rem) HX.out.2 hms);go_upto_region 15 with (fail)
      have HB7:=jq (HB6.out Fr.zero);have HQ7:=jq (HQ6.out Fr.zero);have HR7:=jq (HR6.out Fr.zero);generalize W5.alloc _=W6 at*;clear hlk HB6 HQ6 HR6 HB5 HQ5 HR5 c0 c1;have HIV:=jq (show Ju (Qd 1).rat r.rat=(ZbF r,(Ju 1 r.rat).2) by rw[Zhq];rfl);have HS1:=jq (show Fr.Sz 20000 (Qd 1)/\r.Sz 20000 from⟨⟨by decide+kernel,by decide+kernel⟩,(HSH.out x r HX.out.2).2.more (by omega)⟩);have HON:=jq (fun V (hV:Bz W6 V)=>ZbI V (HB7.out.here hV).po);have HQU:=jq (fun V (hV:Bz W6 V)=>ZfN (Qd 1) r V (HB7.out.here hV).po HS1.out.1 HS1.out.2);rw[HIV.out] at HQU;generalize Qd 1=one1 at*;generalize (Ju 1 r.rat).2=ie at*;generalize ZbF r=iv at*;unfold Qi Qj S at HON;unfold JB Qj S at HQU;have HNL:=jq (show no+2<maxLen by have:=HN.out;unfold maxLen;omega)
      have hS:Hid (∀X,Bz W6 X->X.cell? ⟨b3,0,none⟩=some (.string ⟨x.2.toArray⟩)/\X.cell? ⟨b3,1,none⟩=some (.string ⟨x.1.toArray⟩)/\X.cell? ⟨b1+1,0,none⟩=some (.string ⟨r.n.toArray⟩)/\X.cell? ⟨b1+1,1,none⟩=some (.string ⟨r.d.toArray⟩)/\(Instr.mapUpdate 80 (.map (some q)) (.agg #[.string ⟨x.2.toArray⟩,.string ⟨x.1.toArray⟩]) (.agg #[.string ⟨iv.n.toArray⟩,.string ⟨iv.d.toArray⟩])).run Tryz.prog X=.ok () (putW q (sw x) iv X)):=jq fun X hX=>by
       have h1:=HB7.out.here hX;refine⟨h1.c 1 0 rfl rfl,h1.c 1 1 rfl rfl,h1.c 2 0 rfl rfl,h1.c 2 1 rfl rfl,?_⟩;exact((HQ7.out.here hX).putW (by have:=HNL.out;omega) HXS.out iv).1
      have hS2:Hid (∀Y,Bz W6 Y->(fun X=>X.cell? ⟨b3,0,none⟩=some (.string ⟨x.2.toArray⟩)/\X.cell? ⟨b3,1,none⟩=some (.string ⟨x.1.toArray⟩)/\X.cell? ⟨b1+1,0,none⟩=some (.string ⟨r.n.toArray⟩)/\X.cell? ⟨b1+1,1,none⟩=some (.string ⟨r.d.toArray⟩)/\(Instr.mapUpdate 80 (.map (some q)) (.agg #[.string ⟨x.2.toArray⟩,.string ⟨x.1.toArray⟩]) (.agg #[.string ⟨iv.n.toArray⟩,.string ⟨iv.d.toArray⟩])).run Tryz.prog X=.ok () (putW q (sw x) iv X)) (putW q (sw x) iv Y)):=jq fun Y hY=>by
       obtain⟨_,hq2,hg2⟩:=(HQ7.out.here hY).putW (by have:=HNL.out;omega) HXS.out iv
       have h1:=(HB7.out.here hY).tail.grow hg2 HPQ.out.2 (fun b hb=>by
        have h1:=HBS.out;have h2:=HB7.out.ne 1 2 rfl rfl (by decide);have h3:=HQ7.out;simp only[List.mem_cons,List.not_mem_nil,or_false] at hb
        rcases hb with rfl|rfl|rfl
        ·exact HB3Q.out
        ·simp only;omega
        ·simp only;omega)
       exact⟨h1.c 0 0 rfl rfl,h1.c 0 1 rfl rfl,h1.c 1 0 rfl rfl,h1.c 1 1 rfl rfl,(hq2.putW (by have:=HNL.out;omega) HXS.out iv).1⟩
      have hz0:Bz W6 W6:=Bz.refl W6;have HR7B:=jq HR7.out;go_upto_region 16 with (fail)
      go_region_held3 (fun X=>X.cell? ⟨b3,0,none⟩=some (.string ⟨x.2.toArray⟩)/\X.cell? ⟨b3,1,none⟩=some (.string ⟨x.1.toArray⟩)/\X.cell? ⟨b1+1,0,none⟩=some (.string ⟨r.n.toArray⟩)/\X.cell? ⟨b1+1,1,none⟩=some (.string ⟨r.d.toArray⟩)/\(Instr.mapUpdate 80 (.map (some q)) (.agg #[.string ⟨x.2.toArray⟩,.string ⟨x.1.toArray⟩]) (.agg #[.string ⟨iv.n.toArray⟩,.string ⟨iv.d.toArray⟩])).run Tryz.prog X=.ok () (putW q (sw x) iv X))
       (first|(exact hS2.out _ (by assumption))|(exact hS.out _ (by repeat' (first|assumption|exact Bz.refl _|refine Bz.drew ?_|refine Bz.alloc ?_ _|refine Bz.set ?_ (by first|assumption|exact Nat.le_refl _|exact Bz.size (by assumption)) _ _)))|go_keep)
       (first
         |(go_at_call 87;refine(HON.out _ (by repeat' (first|assumption|exact Bz.refl _|refine Bz.drew ?_|refine Bz.alloc ?_ _|refine Bz.set ?_ (by first|assumption|exact Nat.le_refl _|exact Bz.size (by assumption)) _ _))).mono ?_;rintro e w7 ⟨rfl,hb7⟩;have hz1:Bz W6 w7:=Bz.call (by repeat' (first|assumption|exact Bz.refl _|refine Bz.drew ?_|refine Bz.alloc ?_ _|refine Bz.set ?_ (by first|assumption|exact Nat.le_refl _|exact Bz.size (by assumption)) _ _)) hb7)
         |(go_at_call 86;refine(HQU.out _ (by repeat' (first|assumption|exact Bz.refl _|refine Bz.drew ?_|refine Bz.alloc ?_ _|refine Bz.set ?_ (by first|assumption|exact Nat.le_refl _|exact Bz.size (by assumption)) _ _))).mono ?_;rintro e w8 ⟨rfl,hb8⟩;have hz2:Bz W6 w8:=Bz.call (by repeat' (first|assumption|exact Bz.refl _|refine Bz.drew ?_|refine Bz.alloc ?_ _|refine Bz.set ?_ (by first|assumption|exact Nat.le_refl _|exact Bz.size (by assumption)) _ _)) hb8))
      all_goals
       obtain⟨_,hq9,hg9⟩:=(HQ7.out.here hz2).putW (by have:=HNL.out;omega) HXS.out iv
       have HQ9:=jq hq9;have HK9:=jq ((HB7.out.here hz2).bare.turn hg9 HPQ.out.2);have HR9:=jq ((HR7.out.here_ hz2).grown hg9 (by have:=HPQ.out;simp;omega) (by simp));clear hq9 hg9;go_wp2_with fail
       go_roundw
       case rel=>
        refine⟨_,cnt1,no+2,HK9,HR9,?_,(show no+2+2*cnt1<=2*k by have:=HN.out;have:=HLT.out;omega)⟩
        show PmB _ _ _ _
        rw[HPM.out];have h:=HQ9.out
        rwa [show(fun x_1=>((if x_1=sw x then some iv else if x_1=x then some r else Vb M rem x_1):Option Fr).map Qj)=fun j=>if j=sw x then some (Qj iv) else if j=x then some (Qj r) else(Vb M rem j).map Qj from funext fun y=>(by split<;>(try split)<;>rfl)]
       case measure=>rw[HR9.out.left,HR.out.left];exact HLT.out
end
end Go.Proofs.YtokjnjdbnabchaaGreatDoor
