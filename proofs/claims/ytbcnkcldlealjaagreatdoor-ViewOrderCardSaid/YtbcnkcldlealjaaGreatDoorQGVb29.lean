/- Vs1, Vs2, Vel. -/
import Derived.Test.YtbcnkcldlealjaaGreatDoorQGVb38
set_option maxRecDepth 100000
set_option maxHeartbeats 16000000
namespace Go.Proofs.YtbcnkcldlealjaaGreatDoor
open Go.Lib renaming hid→jq
open Go.RowKit Go.Shelf
section
attribute [local go_sem] Oper.semAt_some
attribute [local go_sem ↓] Go.wp_at_zero Go.wp_at_succ
theorem ZcL{α:Type}{xs ys:List α}{k:Nat}{x:α}(h:xs.take k=ys.take k)(hx:xs[k]?=some x)(hy:ys[k]?=some x):xs.take (k+1)=ys.take (k+1):=by
 obtain⟨h1,e1⟩:=List.getElem?_eq_some_iff.1 hx
 obtain⟨h2,e2⟩:=List.getElem?_eq_some_iff.1 hy
 rw[List.take_succ_eq_append_getElem h1,List.take_succ_eq_append_getElem h2,h,e1,e2]
theorem ZhH(A A':Option Addr)(n n' c c':Nat)(xs ys:List Pk)(w:World)(h1:Pks w w.1.size A n xs)(h2:Pks w w.1.size A' n' ys)(hn:n<=100000)(hn':n'<=100000):
 Calls Tryz.prog 75 #[.slice A n c,.slice A' n' c'] w fun e w'=>e=.returned (.bool (decide (xs=ys)))/\Below w.1.size w w':=by
 have H1:=jq h1;have H2:=jq h2;have HB0:=jq (Below.refl w.1.size w)
 by_cases hnn:n=n'
 case neg=>
  have HR:=jq (show decide (xs=ys)=false from decide_eq_false fun e=>hnn (by rw[h1.1,h2.1,e]));generalize decide (xs=ys)=res at*;have hne:((n:Int) !=(n':Int))=true:=by simp;omega
  clear h1 h2 hnn;go_enter Tryz.func75,Tryz.ntmps75
  go_wp2_with fail
  first|go_ret|skip
  rw[HR.out];exact⟨rfl,HB0.out⟩
 subst hnn;have HT:=jq (fun h=>decide_eq_true (p:=xs=ys) h);have HF:=jq (fun h=>decide_eq_false (p:=xs=ys) h);generalize decide (xs=ys)=res at*;clear h1 h2;have hne:((n:Int) !=(n:Int))=false:=by simp
 go_enter Tryz.func75,Tryz.ntmps75
 go_wp2_with fail
 go_loopw [5,13] (fun _ j wr=>∃k:Nat,k<=n/\j=.int .i64 k/\Hid (Below w.1.size w wr)/\Hid (xs.take k=ys.take k)) (fun _ j _=>n-(intOf j).toNat)
 case atStart=>exact⟨0,Nat.zero_le _,rfl,Below.refl _ _,rfl⟩
 case round=>
  obtain⟨k,hk,rfl,HB,HE⟩:=hrel
  by_cases hlt:k<n
  ·obtain⟨b,off,y,rfl,hb,hy,d0,d1⟩:=(H1.out.here HB.out).pk hlt
   obtain⟨b2,off2,z,rfl,hb2,hz,e0,e1⟩:=(H2.out.here HB.out).pk hlt
   have i1:(0:Int)<=(k:Int):=by omega
   have i2:(k:Int)<(n:Int):=by omega
   by_cases hyz:y=z
   ·subst hyz;have HE2:=jq (ZcL HE.out hy hz);clear hy hz hb hb2;unfold S at*
    go_upto_region 6 with (fail)
    go_region_held3 (fun X=>X.cell? ⟨b,off+k*2,none⟩=some (.string ⟨y.lot.toArray⟩)/\X.cell? ⟨b,off+k*2+1,none⟩=some (.string ⟨y.q.toArray⟩)/\X.cell? ⟨b2,off2+k*2,none⟩=some (.string ⟨y.lot.toArray⟩)/\X.cell? ⟨b2,off2+k*2+1,none⟩=some (.string ⟨y.q.toArray⟩)) (go_keep) (fail)
    all_goals
     go_wp2_with fail
     exact⟨⟨k+1,by omega,by simp,HB.out.drew,HE2.out⟩,by simp[intOf];omega⟩
   ·have HNE:=jq (HF.out fun e=>hyz (by rw[e,hz] at hy;injection hy with hy;exact hy.symm));clear hy hz hb hb2;unfold S at*
    have hd:y.lot≠z.lot\/y.q≠z.q:=by
     obtain⟨y1,y2⟩:=y
     obtain⟨z1,z2⟩:=z
     simp only[Pk.mk.injEq,ne_eq] at hyz ⊢;simpa only[Classical.not_and_iff_not_or_not,or_assoc] using hyz
    clear hyz
    rcases hd with hd|hd
    all_goals
     have hd2:=beq_false_of_ne hd;clear hd;go_upto_region 6 with (fail)
     go_region_held3 (fun X=>X.cell? ⟨b,off+k*2,none⟩=some (.string ⟨y.lot.toArray⟩)/\X.cell? ⟨b,off+k*2+1,none⟩=some (.string ⟨y.q.toArray⟩)/\X.cell? ⟨b2,off2+k*2,none⟩=some (.string ⟨z.lot.toArray⟩)/\X.cell? ⟨b2,off2+k*2+1,none⟩=some (.string ⟨z.q.toArray⟩)) (go_keep) (fail)
     all_goals
      go_wp2_with fail
      first|go_ret|skip
      rw[HNE.out];exact⟨rfl,HB.out.drew⟩
  ·obtain rfl:k=n:=by omega
   have HR:=jq (HT.out (by have h:=HE.out;rwa [List.take_of_length_le (by rw[<-H1.out.1];exact Nat.le_refl _),List.take_of_length_le (by rw[<-H2.out.1];exact Nat.le_refl _)] at h));go_wp2_with fail
   first|go_ret|skip
   rw[HR.out];exact⟨rfl,HB.out⟩
theorem ZhI(A A':Option Addr)(n n' c c':Nat)(xs ys:List Opn)(w:World)(h1:Ops w w.1.size A n xs)(h2:Ops w w.1.size A' n' ys)(hn:n<=100000)(hn':n'<=100000):
 Calls Tryz.prog 76 #[.slice A n c,.slice A' n' c'] w fun e w'=>e=.returned (.bool (decide (xs=ys)))/\Below w.1.size w w':=by
 have H1:=jq h1;have H2:=jq h2;have HB0:=jq (Below.refl w.1.size w)
 by_cases hnn:n=n'
 case neg=>
  have HR:=jq (show decide (xs=ys)=false from decide_eq_false fun e=>hnn (by rw[h1.1,h2.1,e]));generalize decide (xs=ys)=res at*;have hne:((n:Int) !=(n':Int))=true:=by simp;omega
  clear h1 h2 hnn;go_enter Tryz.func76,Tryz.ntmps76
  go_wp2_with fail
  first|go_ret|skip
  rw[HR.out];exact⟨rfl,HB0.out⟩
 subst hnn;have HT:=jq (fun h=>decide_eq_true (p:=xs=ys) h);have HF:=jq (fun h=>decide_eq_false (p:=xs=ys) h);generalize decide (xs=ys)=res at*;clear h1 h2;have hne:((n:Int) !=(n:Int))=false:=by simp
 go_enter Tryz.func76,Tryz.ntmps76
 go_wp2_with fail
 go_loopw [5,13] (fun _ j wr=>∃k:Nat,k<=n/\j=.int .i64 k/\Hid (Below w.1.size w wr)/\Hid (xs.take k=ys.take k)) (fun _ j _=>n-(intOf j).toNat)
 case atStart=>exact⟨0,Nat.zero_le _,rfl,Below.refl _ _,rfl⟩
 case round=>
  obtain⟨k,hk,rfl,HB,HE⟩:=hrel
  by_cases hlt:k<n
  ·obtain⟨b,off,y,rfl,hb,hy,d0,d1,d2,d3,d4,d5,d6⟩:=(H1.out.here HB.out).opt hlt
   obtain⟨b2,off2,z,rfl,hb2,hz,e0,e1,e2,e3,e4,e5,e6⟩:=(H2.out.here HB.out).opt hlt
   have i1:(0:Int)<=(k:Int):=by omega
   have i2:(k:Int)<(n:Int):=by omega
   by_cases hyz:y=z
   ·subst hyz;have HE2:=jq (ZcL HE.out hy hz);clear hy hz hb hb2;unfold S at*
    go_upto_region 6 with (fail)
    go_region_held3 (fun X=>X.cell? ⟨b,off+k*7,none⟩=some (.string ⟨y.other.toArray⟩)/\X.cell? ⟨b,off+k*7+1,none⟩=some (.string ⟨y.ratio.n.toArray⟩)/\X.cell? ⟨b,off+k*7+2,none⟩=some (.string ⟨y.ratio.d.toArray⟩)/\X.cell? ⟨b,off+k*7+3,none⟩=some (.string ⟨y.price.n.toArray⟩)/\X.cell? ⟨b,off+k*7+4,none⟩=some (.string ⟨y.price.d.toArray⟩)/\X.cell? ⟨b,off+k*7+5,none⟩=some (.string ⟨y.value.n.toArray⟩)/\X.cell? ⟨b,off+k*7+6,none⟩=some (.string ⟨y.value.d.toArray⟩)/\X.cell? ⟨b2,off2+k*7,none⟩=some (.string ⟨y.other.toArray⟩)/\X.cell? ⟨b2,off2+k*7+1,none⟩=some (.string ⟨y.ratio.n.toArray⟩)/\X.cell? ⟨b2,off2+k*7+2,none⟩=some (.string ⟨y.ratio.d.toArray⟩)/\X.cell? ⟨b2,off2+k*7+3,none⟩=some (.string ⟨y.price.n.toArray⟩)/\X.cell? ⟨b2,off2+k*7+4,none⟩=some (.string ⟨y.price.d.toArray⟩)/\X.cell? ⟨b2,off2+k*7+5,none⟩=some (.string ⟨y.value.n.toArray⟩)/\X.cell? ⟨b2,off2+k*7+6,none⟩=some (.string ⟨y.value.d.toArray⟩)) (go_keep) (fail)
    all_goals
     go_wp2_with fail
     exact⟨⟨k+1,by omega,by simp,HB.out.drew,HE2.out⟩,by simp[intOf];omega⟩
   ·have HNE:=jq (HF.out fun e=>hyz (by rw[e,hz] at hy;injection hy with hy;exact hy.symm));clear hy hz hb hb2;unfold S at*
    have hd:y.other≠z.other\/y.ratio.n≠z.ratio.n\/y.ratio.d≠z.ratio.d\/y.price.n≠z.price.n\/y.price.d≠z.price.d\/y.value.n≠z.value.n\/y.value.d≠z.value.d:=by
     obtain⟨y1,⟨y2,y3⟩,⟨y4,y5⟩,⟨y6,y7⟩⟩:=y
     obtain⟨z1,⟨z2,z3⟩,⟨z4,z5⟩,⟨z6,z7⟩⟩:=z
     simp only[Opn.mk.injEq,Fr.mk.injEq,ne_eq] at hyz ⊢;simpa only[Classical.not_and_iff_not_or_not,or_assoc] using hyz
    clear hyz
    rcases hd with hd|hd|hd|hd|hd|hd|hd
    all_goals
     have hd2:=beq_false_of_ne hd;clear hd;go_upto_region 6 with (fail)
     go_region_held3 (fun X=>X.cell? ⟨b,off+k*7,none⟩=some (.string ⟨y.other.toArray⟩)/\X.cell? ⟨b,off+k*7+1,none⟩=some (.string ⟨y.ratio.n.toArray⟩)/\X.cell? ⟨b,off+k*7+2,none⟩=some (.string ⟨y.ratio.d.toArray⟩)/\X.cell? ⟨b,off+k*7+3,none⟩=some (.string ⟨y.price.n.toArray⟩)/\X.cell? ⟨b,off+k*7+4,none⟩=some (.string ⟨y.price.d.toArray⟩)/\X.cell? ⟨b,off+k*7+5,none⟩=some (.string ⟨y.value.n.toArray⟩)/\X.cell? ⟨b,off+k*7+6,none⟩=some (.string ⟨y.value.d.toArray⟩)/\X.cell? ⟨b2,off2+k*7,none⟩=some (.string ⟨z.other.toArray⟩)/\X.cell? ⟨b2,off2+k*7+1,none⟩=some (.string ⟨z.ratio.n.toArray⟩)/\X.cell? ⟨b2,off2+k*7+2,none⟩=some (.string ⟨z.ratio.d.toArray⟩)/\X.cell? ⟨b2,off2+k*7+3,none⟩=some (.string ⟨z.price.n.toArray⟩)/\X.cell? ⟨b2,off2+k*7+4,none⟩=some (.string ⟨z.price.d.toArray⟩)/\X.cell? ⟨b2,off2+k*7+5,none⟩=some (.string ⟨z.value.n.toArray⟩)/\X.cell? ⟨b2,off2+k*7+6,none⟩=some (.string ⟨z.value.d.toArray⟩)) (go_keep) (fail)
     all_goals
      go_wp2_with fail
      first|go_ret|skip
      rw[HNE.out];exact⟨rfl,HB.out.drew⟩
  ·obtain rfl:k=n:=by omega
   have HR:=jq (HT.out (by have h:=HE.out;rwa [List.take_of_length_le (by rw[<-H1.out.1];exact Nat.le_refl _),List.take_of_length_le (by rw[<-H2.out.1];exact Nat.le_refl _)] at h));go_wp2_with fail
   first|go_ret|skip
   rw[HR.out];exact⟨rfl,HB.out⟩
end
section
attribute [local go_sem] Oper.semAt_some
attribute [local go_sem ↓] Go.wp_at_zero Go.wp_at_succ Qq
theorem ZfV(f g:Fct):decide (f=g)=(f.key==g.key&&f.stamp==g.stamp&&f.cancelled==g.cancelled&&f.day==g.day&&f.kind==g.kind&&f.inst==g.inst&&f.other==g.other&&f.cur==g.cur&&f.target==g.target&&f.q==g.q&&f.amount==g.amount&&f.fee==g.fee&&(f.price.n==g.price.n&&f.price.d==g.price.d)&&(f.ratio.n==g.ratio.n&&f.ratio.d==g.ratio.d)&&(f.share.n==g.share.n&&f.share.d==g.share.d)&&decide (f.picks=g.picks)&&decide (f.options=g.options)&&f.choice==g.choice):=by
 obtain⟨key,stamp,canc,day,kind,inst,other,cur,target,q,amount,fee,⟨pn,pd⟩,⟨rn,rd⟩,⟨sn,sd⟩,picks,options,choice⟩:=f
 obtain⟨key',stamp',canc',day',kind',inst',other',cur',target',q',amount',fee',⟨pn',pd'⟩,⟨rn',rd'⟩,⟨sn',sd'⟩,picks',options',choice'⟩:=g
 rw[Bool.eq_iff_iff];simp[and_assoc]
theorem Zae(f g:Fct)(u v:FaV)(w:World)(hp:Env w)(hf:FxM w w.1.size (f,u))(hg:FxM w w.1.size (g,v)):
 Calls Tryz.prog 41 #[.agg (Qa f u),.agg (Qa g v)] w fun e w'=>e=.returned (.bool (decide (f=g)))/\Below w.1.size w w':=by
 have H:=jq (((Kp.start hp).new w.1.size rfl (Qa f u) 44).new (w.1.size+1) (by simp) (Qa g v) 44);have HP:=jq (fun W (hb:Below w.1.size w W)=>ZhH u.pA v.pA u.pn v.pn u.pc v.pc f.picks g.picks W (hf.m.here hb).pk (hg.m.here hb).pk hf.pn hg.pn);have HO:=jq (fun W (hb:Below w.1.size w W)=>ZhI u.oA v.oA u.on v.on u.oc v.oc f.options g.options W (hf.m.here hb).op (hg.m.here hb).op hf.on hg.on);rw[ZfV f g];generalize decide (f.picks=g.picks)=bp at*;generalize decide (f.options=g.options)=bo at*;have x0:=H.out.c 1 0 rfl (show(Qa f u)[0]?=some (.string ⟨f.key.toArray⟩) from rfl);have y0:=H.out.c 0 0 rfl (show(Qa g v)[0]?=some (.string ⟨g.key.toArray⟩) from rfl);have x1:=H.out.c 1 1 rfl (show(Qa f u)[1]?=some (.int .i64 f.stamp) from rfl);have y1:=H.out.c 0 1 rfl (show(Qa g v)[1]?=some (.int .i64 g.stamp) from rfl);have x2:=H.out.c 1 2 rfl (show(Qa f u)[2]?=some (.bool f.cancelled) from rfl);have y2:=H.out.c 0 2 rfl (show(Qa g v)[2]?=some (.bool g.cancelled) from rfl);have x3:=H.out.c 1 3 rfl (show(Qa f u)[3]?=some (.int .i64 f.day) from rfl);have y3:=H.out.c 0 3 rfl (show(Qa g v)[3]?=some (.int .i64 g.day) from rfl);have x4:=H.out.c 1 4 rfl (show(Qa f u)[4]?=some (.int .i64 f.kind) from rfl);have y4:=H.out.c 0 4 rfl (show(Qa g v)[4]?=some (.int .i64 g.kind) from rfl);have x5:=H.out.c 1 5 rfl (show(Qa f u)[5]?=some (.string ⟨f.inst.toArray⟩) from rfl);have y5:=H.out.c 0 5 rfl (show(Qa g v)[5]?=some (.string ⟨g.inst.toArray⟩) from rfl);have x6:=H.out.c 1 6 rfl (show(Qa f u)[6]?=some (.string ⟨f.other.toArray⟩) from rfl);have y6:=H.out.c 0 6 rfl (show(Qa g v)[6]?=some (.string ⟨g.other.toArray⟩) from rfl);have x7:=H.out.c 1 7 rfl (show(Qa f u)[7]?=some (.string ⟨f.cur.toArray⟩) from rfl);have y7:=H.out.c 0 7 rfl (show(Qa g v)[7]?=some (.string ⟨g.cur.toArray⟩) from rfl);have x8:=H.out.c 1 8 rfl (show(Qa f u)[8]?=some (.string ⟨f.target.toArray⟩) from rfl);have y8:=H.out.c 0 8 rfl (show(Qa g v)[8]?=some (.string ⟨g.target.toArray⟩) from rfl);have x9:=H.out.c 1 9 rfl (show(Qa f u)[9]?=some (.string ⟨f.q.toArray⟩) from rfl);have y9:=H.out.c 0 9 rfl (show(Qa g v)[9]?=some (.string ⟨g.q.toArray⟩) from rfl);have x10:=H.out.c 1 10 rfl (show(Qa f u)[10]?=some (.string ⟨f.amount.toArray⟩) from rfl);have y10:=H.out.c 0 10 rfl (show(Qa g v)[10]?=some (.string ⟨g.amount.toArray⟩) from rfl);have x11:=H.out.c 1 11 rfl (show(Qa f u)[11]?=some (.string ⟨f.fee.toArray⟩) from rfl);have y11:=H.out.c 0 11 rfl (show(Qa g v)[11]?=some (.string ⟨g.fee.toArray⟩) from rfl);have x12:=H.out.c 1 12 rfl (show(Qa f u)[12]?=some (.string ⟨f.price.n.toArray⟩) from rfl);have y12:=H.out.c 0 12 rfl (show(Qa g v)[12]?=some (.string ⟨g.price.n.toArray⟩) from rfl);have x13:=H.out.c 1 13 rfl (show(Qa f u)[13]?=some (.string ⟨f.price.d.toArray⟩) from rfl);have y13:=H.out.c 0 13 rfl (show(Qa g v)[13]?=some (.string ⟨g.price.d.toArray⟩) from rfl);have x14:=H.out.c 1 14 rfl (show(Qa f u)[14]?=some (.string ⟨f.ratio.n.toArray⟩) from rfl);have y14:=H.out.c 0 14 rfl (show(Qa g v)[14]?=some (.string ⟨g.ratio.n.toArray⟩) from rfl);have x15:=H.out.c 1 15 rfl (show(Qa f u)[15]?=some (.string ⟨f.ratio.d.toArray⟩) from rfl);have y15:=H.out.c 0 15 rfl (show(Qa g v)[15]?=some (.string ⟨g.ratio.d.toArray⟩) from rfl);have x16:=H.out.c 1 16 rfl (show(Qa f u)[16]?=some (.string ⟨f.share.n.toArray⟩) from rfl);have y16:=H.out.c 0 16 rfl (show(Qa g v)[16]?=some (.string ⟨g.share.n.toArray⟩) from rfl);have x17:=H.out.c 1 17 rfl (show(Qa f u)[17]?=some (.string ⟨f.share.d.toArray⟩) from rfl);have y17:=H.out.c 0 17 rfl (show(Qa g v)[17]?=some (.string ⟨g.share.d.toArray⟩) from rfl);have x18:=H.out.c 1 18 rfl (show(Qa f u)[18]?=some (.slice u.pA u.pn u.pc) from rfl);have y18:=H.out.c 0 18 rfl (show(Qa g v)[18]?=some (.slice v.pA v.pn v.pc) from rfl);have x19:=H.out.c 1 19 rfl (show(Qa f u)[19]?=some (.slice u.oA u.on u.oc) from rfl);have y19:=H.out.c 0 19 rfl (show(Qa g v)[19]?=some (.slice v.oA v.on v.oc) from rfl);have x20:=H.out.c 1 20 rfl (show(Qa f u)[20]?=some (.int .i64 f.choice) from rfl);have y20:=H.out.c 0 20 rfl (show(Qa g v)[20]?=some (.int .i64 g.choice) from rfl);have X19:=jq (show(Qa f u)[19]?=some (.slice u.oA u.on u.oc) from rfl);have Y19:=jq (show(Qa g v)[19]?=some (.slice v.oA v.on v.oc) from rfl);have X20:=jq (show(Qa f u)[20]?=some (.int .i64 f.choice) from rfl);have Y20:=jq (show(Qa g v)[20]?=some (.int .i64 g.choice) from rfl);generalize Qa f u=fa at*;generalize Qa g v=fb at*;clear hp hf hg;go_enter Tryz.func41,Tryz.ntmps41
 go_upto_region 1 with (fail)
 generalize hW:(w.alloc (.cells fa 44)).alloc (.cells fb 44)=W at*;have HB:=jq H.out.bl;have HBW:=jq (fun W' (hb:Below W.1.size W W')=>(H.out.here hb).bl);clear hW
 go_wp2_with (first
  |(go_at_call 75;refine(HP.out _ HB.out).mono ?_;rintro e w1 ⟨rfl,hb1⟩;have HB1:=jq (HBW.out _ hb1);have x19b:=(H.out.here hb1).c 1 19 rfl X19.out;have y19b:=(H.out.here hb1).c 0 19 rfl Y19.out;cases bp)
  |(go_at_call 76;first
     |(refine(HO.out _ HB1.out).mono ?_;rintro e w2 ⟨rfl,hb2⟩;have HB2:=jq (HBW.out _ (hb1.trans (hb2.mono hb1.size)));have x20c:=((H.out.here hb1).here hb2).c 1 20 rfl X20.out;have y20c:=((H.out.here hb1).here hb2).c 0 20 rfl Y20.out;cases bo)))
 all_goals
  first|go_ret|skip
  refine⟨Qy ?_,by first|exact HB2.out|exact HB1.out|exact HB.out⟩;simp[*]
end
section
attribute [local go_sem] Oper.semAt_some
attribute [local go_sem ↓] Qq QA
theorem Zjh{xs ys:List Fx}{k:Nat}{f:Fct}{u v:FaV}(h:(xs.map (·.1)).take k=(ys.map (·.1)).take k)(hx:xs[k]?=some (f,u))(hy:ys[k]?=some (f,v)):(xs.map (·.1)).take (k+1)=(ys.map (·.1)).take (k+1):=
 ZcL h (x:=f) (by rw[List.getElem?_map,hx];rfl) (by rw[List.getElem?_map,hy];rfl)
theorem ZhP(A A':Option Addr)(n n' c c':Nat)(xs ys:List Fx)(w:World)(hp:Env w)(h1:Fxs w w.1.size A n xs)(h2:Fxs w w.1.size A' n' ys)(hn:n<=1000000000)(hn':n'<=1000000000):
 Calls Tryz.prog 50 #[.slice A n c,.slice A' n' c',.func (.func 41) #[] #[]] w fun e w'=>e=.returned (.bool (decide (xs.map (·.1)=ys.map (·.1))))/\Below w.1.size w w':=by
 have H1:=jq h1;have H2:=jq h2;have H:=jq (Kp.start hp)
 by_cases hnn:n=n'
 case neg=>
  have HR:=jq (show decide (xs.map (·.1)=ys.map (·.1))=false from decide_eq_false fun e=>hnn (by have h:=congrArg List.length e;rw[List.length_map,List.length_map] at h;rw[h1.len,h2.len,h]));generalize decide (xs.map (·.1)=ys.map (·.1))=res at*;have hne:((n:Int) !=(n':Int))=true:=by simp;omega
  clear h1 h2 hnn;go_enter Tryz.func50,Tryz.ntmps50
  go_wp2_with fail
  first|go_ret|skip
  rw[HR.out];exact⟨rfl,H.out.bl⟩
 subst hnn;have HT:=jq (fun h=>decide_eq_true (p:=xs.map (·.1)=ys.map (·.1)) h);have HF:=jq (fun h=>decide_eq_false (p:=xs.map (·.1)=ys.map (·.1)) h);generalize decide (xs.map (·.1)=ys.map (·.1))=res at*;clear h1 h2 hp;have hne:((n:Int) !=(n:Int))=false:=by simp
 have eg:∀args w,(callFunc 41 args).run Tryz.prog w=.ok (.enter 41 args) w:=enters_of Tryz.func41 (by kernel_rfl) rfl;go_enter Tryz.func50,Tryz.ntmps50
 go_wp2_with fail
 go_loopw [6,7,8,9,17] (fun r _ _ _ j wr=>∃k:Nat,k<=n/\r=.bool false/\j=.int .i64 k/\Hid (Kp w [] wr)/\Hid ((xs.map (·.1)).take k=(ys.map (·.1)).take k)) (fun _ _ _ _ j _=>n-(intOf j).toNat)
 case atStart=>exact⟨0,Nat.zero_le _,rfl,rfl,H,rfl⟩
 case round=>
  clear H;obtain⟨k,hk,rfl,rfl,H,HE⟩:=hrel
  by_cases hlt:k<n
  ·obtain⟨b,off,f,u,rfl,hb,hx,hm,hr⟩:=(H1.out.below H.out.bl).at_ hlt
   obtain⟨b2,off2,g,v,rfl,hb2,hy,hm2,hr2⟩:=(H2.out.below H.out.bl).at_ hlt
   have hld:=Qi hr;have hst:=fun cs (hc:cs.size=21)=>Qj wr f u (cs:=cs) hc
   have hB1:=(Below.refl wr.1.size wr).alloc (Nat.le_refl _) (.cells (Qa f u) 44);have hld2:=Qi (Xl hr2 (hB1.mono H.out.bl.size) hb2);have hst2:=fun cs (hc:cs.size=21)=>Qj (wr.alloc (.cells (Qa f u) 44)) g v (cs:=cs) hc
   simp only[World.size_alloc] at hst2;have HK1:=jq ((H.out.new wr.1.size rfl (Qa f u) 44).new (wr.1.size+1) (by simp) (Qa g v) 44);have HM:=jq ((hm.more H.out.bl.size).here (hB1.alloc (by simp) (.cells (Qa g v) 44)));have HM2:=jq ((hm2.more H.out.bl.size).here (hB1.alloc (by simp) (.cells (Qa g v) 44)));have HX:=jq hx;have HY:=jq hy;clear hx hy hr hr2 hb hb2 hm hm2 hB1;go_upto_region 7 with (fail)
   generalize (wr.alloc (.cells (Qa f u) 44)).alloc (.cells (Qa g v) 44)=W1 at*;generalize hp1:wr.1.size+1=p1 at*;generalize hp0:wr.1.size=p0 at*;clear hld hst hld2 hst2 hp1 hp0;have hl1:=Qk (HK1.out.at_ 1 rfl) (Qe f u);have hl2:=Qk (HK1.out.at_ 0 rfl) (Qe g v);have HC:=jq (Zae f g u v W1 HK1.out.pw HM.out HM2.out)
   by_cases hfg:f=g
   ·subst hfg;rw[decide_eq_true rfl] at HC;go_wp2_with (go_at_fn 41;refine HC.out.mono ?_;rintro e w3 ⟨rfl,hb3⟩)
    go_roundw
    case rel=>exact⟨k+1,by omega,rfl,by go_num,(HK1.out.here hb3).bare,Zjh HE.out HX.out HY.out⟩
    case measure=>simp[intOf];omega
   ·have HNE:=jq (HF.out fun e=>hfg (by
     have h3:(xs.map (·.1))[k]?=some f:=by rw[List.getElem?_map,HX.out];rfl
     have h4:(ys.map (·.1))[k]?=some g:=by rw[List.getElem?_map,HY.out];rfl
     rw[e,h4] at h3;exact(Option.some.inj h3).symm))
    rw[decide_eq_false hfg] at HC;clear hfg;go_wp2_with (go_at_fn 41;refine HC.out.mono ?_;rintro e w3 ⟨rfl,hb3⟩)
    first|go_ret|skip
    rw[HNE.out];exact⟨rfl,(HK1.out.here hb3).bl⟩
  ·obtain rfl:k=n:=by omega
   have HR:=jq (HT.out (by have h:=HE.out;rwa [List.take_of_length_le (by rw[List.length_map,<-H1.out.len];exact Nat.le_refl _),List.take_of_length_le (by rw[List.length_map,<-H2.out.len];exact Nat.le_refl _)] at h));go_wp2_with fail
   first|go_ret|skip
   rw[HR.out];exact⟨rfl,H.out.bl⟩
theorem QL(A A':Option Addr)(n n' c c':Nat)(xs ys:List Fx)(w:World)(hp:Env w)(h1:Fxs w w.1.size A n xs)(h2:Fxs w w.1.size A' n' ys)(hn:n<=1000000000)(hn':n'<=1000000000):
 Calls Tryz.prog 16 #[.slice A n c,.slice A' n' c'] w fun e w'=>e=.returned (.bool (decide (xs.map (·.1)=ys.map (·.1))))/\Below w.1.size w w':=by
 have H:=jq (ZhP A A' n n' c c' xs ys w hp h1 h2 hn hn');generalize decide (xs.map (·.1)=ys.map (·.1))=res at*;clear h1 h2 hp;go_enter Tryz.func16,Tryz.ntmps16
 go_wp2_with (go_at_call 50;refine H.out.mono ?_;rintro e w' ⟨rfl,hb'⟩)
 go_ret
 exact⟨rfl,hb'⟩
end
end Go.Proofs.YtbcnkcldlealjaaGreatDoor
