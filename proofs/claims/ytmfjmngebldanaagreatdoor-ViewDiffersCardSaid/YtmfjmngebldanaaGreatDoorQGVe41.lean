/- Y11. -/
import Derived.Test.YtmfjmngebldanaaGreatDoorQGVe29
import Derived.Test.YtmfjmngebldanaaGreatDoorQGVe6
set_option maxRecDepth 100000
set_option maxHeartbeats 4000000
namespace Go.Proofs.YtmfjmngebldanaaGreatDoor
open Go.Lib renaming hid→jq
section
open Go.RowKit Go.Shelf
attribute [local go_sem] Oper.semAt_some
attribute [local go_sem ↓] Go.wp_at_zero Go.wp_at_succ Ql Qz
theorem Zai(l:List Fct)(key:List UInt8):(Yc l key=.tuple #[.int .i64 0,.bool false]/\QA l key=none)\/∃k f,l[k]?=some f/\Yc l key=.tuple #[.int .i64 (k:Nat),.bool true]/\QA l key=some f:=by
 unfold Yc QA
 cases e:Vs l key with
 |none=>
  unfold Vs at e;rw[List.findIdx?_eq_none_iff] at e;exact .inl ⟨rfl,List.find?_eq_none.2 fun x hx=>by simp[e x hx]⟩
 |some k=>
  unfold Vs at e;obtain⟨hk,h1,h2⟩:=List.findIdx?_eq_some_iff_getElem.1 e
  refine .inr ⟨k,l[k],List.getElem?_eq_getElem hk,rfl,?_⟩;rw[List.find?_eq_some_iff_getElem];exact⟨h1,k,hk,rfl,fun j hj=>by simpa using h2 j hj⟩
theorem ZdJ(l:List Fct)(key:List UInt8):∃q:Int,Yc l key=.tuple #[.int .i64 q,.bool (l.any fun g=>g.key==key)]:=by
 rcases Zai l key with ⟨h1,h2⟩|⟨k,f,h0,h1,h2⟩
 ·refine⟨0,?_⟩;rw[h1,show(l.any fun g=>g.key==key)=false from ?_];unfold QA at h2;rw[List.find?_eq_none] at h2;rw[List.any_eq_false];exact fun x hx=>h2 x hx
 ·refine⟨k,?_⟩;rw[h1,show(l.any fun g=>g.key==key)=true from ?_];unfold QA at h2;exact List.any_eq_true.2 ⟨f,List.mem_of_find?_eq_some h2,by have h3:=List.find?_some h2;exact h3⟩
theorem ZhA{xs:List Fx}{k:Nat}{f:Fct}(h:(xs.map (·.1))[k]?=some f):k<xs.length:=by
 have:=(List.getElem?_eq_some_iff.1 h).1
 rwa [List.length_map] at this
theorem ZdK(A A':Option Addr)(n n' c c':Nat)(xs ys:List Fx)(key:List UInt8)(w:World)(hp:Env w)(h1:Fxs w w.1.size A n xs)(h2:Fxs w w.1.size A' n' ys)(hn:n<=1000000)(hn':n'<=1000000):
 Calls Tryz.prog 40 #[.slice A n c,.slice A' n' c',.string ⟨key.toArray⟩] w fun e w'=>e=.returned (.bool (decide (QA (xs.map (·.1)) key≠QA (ys.map (·.1)) key)))/\Below w.1.size w w':=by
 have H1:=jq h1;have H2:=jq h2;have H:=jq (Kp.start hp);have HA:=jq (Vz A n c xs key w h1 hn);have HB:=jq (Vz A' n' c' ys key w h2 hn');clear hp h1 h2
 rcases Zai (xs.map (·.1)) key with ⟨ha1,ha2⟩|⟨i,f,ha0,ha1,ha2⟩<;>rcases Zai (ys.map (·.1)) key with ⟨hb1,hb2⟩|⟨j,g,hb0,hb1,hb2⟩<;>rw[ha1] at HA<;>rw[hb1] at HB
 ·have HR:=jq (show decide (QA (xs.map (·.1)) key≠QA (ys.map (·.1)) key)=false by rw[ha2,hb2];simp);generalize decide (QA (xs.map (·.1)) key≠QA (ys.map (·.1)) key)=res at*;clear ha1 ha2 hb1 hb2;go_enter Tryz.func40,Tryz.ntmps40
  go_wp2_with fail
  refine HA.out.mono ?_;rintro e w1 ⟨rfl,rfl⟩;go_wp2_with fail
  refine HB.out.mono ?_;rintro e w2 ⟨rfl,rfl⟩;go_upto_region 3 with (fail)
  go_region
  all_goals
   go_wp2_with fail
   first|go_ret|skip
   exact⟨Qd HR.out.symm,by first|exact H.out.bl|exact H.out.bl.drew|exact JI H.out.bl _⟩
 ·have HR:=jq (show decide (QA (xs.map (·.1)) key≠QA (ys.map (·.1)) key)=true by rw[ha2,hb2];simp);generalize decide (QA (xs.map (·.1)) key≠QA (ys.map (·.1)) key)=res at*;clear ha1 ha2 hb0 hb1 hb2;go_enter Tryz.func40,Tryz.ntmps40
  go_wp2_with fail
  refine HA.out.mono ?_;rintro e w1 ⟨rfl,rfl⟩;go_wp2_with fail
  refine HB.out.mono ?_;rintro e w2 ⟨rfl,rfl⟩;go_upto_region 3 with (fail)
  go_region
  all_goals
   go_wp2_with fail
   first|go_ret|skip
   exact⟨Qd HR.out.symm,by first|exact H.out.bl|exact H.out.bl.drew|exact JI H.out.bl _⟩
 ·have HR:=jq (show decide (QA (xs.map (·.1)) key≠QA (ys.map (·.1)) key)=true by rw[ha2,hb2];simp);generalize decide (QA (xs.map (·.1)) key≠QA (ys.map (·.1)) key)=res at*;clear ha0 ha1 ha2 hb1 hb2;go_enter Tryz.func40,Tryz.ntmps40
  go_wp2_with fail
  refine HA.out.mono ?_;rintro e w1 ⟨rfl,rfl⟩;go_wp2_with fail
  refine HB.out.mono ?_;rintro e w2 ⟨rfl,rfl⟩;go_upto_region 3 with (fail)
  go_region
  all_goals
   go_wp2_with fail
   first|go_ret|skip
   exact⟨Qd HR.out.symm,by first|exact H.out.bl|exact H.out.bl.drew|exact JI H.out.bl _⟩
 ·have HR:=jq (show decide (QA (xs.map (·.1)) key≠QA (ys.map (·.1)) key)= !decide (f=g) by rw[ha2,hb2];simp);generalize decide (QA (xs.map (·.1)) key≠QA (ys.map (·.1)) key)=res at*;obtain⟨b,off,f',u,rfl,hb,hx,hm,hr⟩:=H1.out.at_ (i:=i) (by rw[H1.out.len];exact ZhA ha0)
  obtain⟨b2,off2,g',v,rfl,hb2',hy,hm2,hr2⟩:=H2.out.at_ (i:=j) (by rw[H2.out.len];exact ZhA hb0)
  obtain rfl:f'=f:=by rw[List.getElem?_map,hx] at ha0;exact Option.some.inj ha0
  obtain rfl:g'=g:=by rw[List.getElem?_map,hy] at hb0;exact Option.some.inj hb0
  have HZ:=jq (show ∀X,Below w.1.size w X->(Vj (.pointer (some ⟨b,off+i*21,none⟩))).run Tryz.prog X=.ok (.agg (Qb f' u)) X/\(Vj (.pointer (some ⟨b2,off2+j*21,none⟩))).run Tryz.prog X=.ok (.agg (Qb g' v)) X from
   fun X hX=>⟨Qi (Qu hr hX hb),Qi (Qu hr2 hX hb2')⟩)
  have HC:=jq (fun W (hW:Below w.1.size w W)=>Zb6 f' g' u v W (H.out.here hW).pw (hm.here hW) (hm2.here hW));have HBL:=jq (Below.refl w.1.size w);have hi:=ZhA ha0;have hj:=ZhA hb0;rw[<-H1.out.len] at hi;rw[<-H2.out.len] at hj
  have i1:(0:Int)<=(i:Int):=by omega
  have i2:(i:Int)<(n:Int):=by omega
  have j1:(0:Int)<=(j:Int):=by omega
  have j2:(j:Int)<(n':Int):=by omega
  generalize decide (f'=g')=z at*;clear ha0 ha1 ha2 hb0 hb1 hb2 hb hx hm hr hb2' hy hm2 hr2 hi hj;go_enter Tryz.func40,Tryz.ntmps40
  go_wp2_with fail
  refine HA.out.mono ?_;rintro e w1 ⟨rfl,rfl⟩;go_wp2_with fail
  refine HB.out.mono ?_;rintro e w2 ⟨rfl,rfl⟩;go_upto_region 3 with (fail)
  go_region_held3 (fun X=>(Vj (.pointer (some ⟨b,off+i*21,none⟩))).run Tryz.prog X=.ok (.agg (Qb f' u)) X/\(Vj (.pointer (some ⟨b2,off2+j*21,none⟩))).run Tryz.prog X=.ok (.agg (Qb g' v)) X)
   (first|exact HZ.out _ hz3|exact HZ.out _ HBL.out.drew|exact HZ.out _ HBL.out|go_keep)
   (first|(go_at_call 33;refine(HC.out _ HBL.out.drew).mono ?_;rintro e w3 ⟨rfl,hb3⟩;have hz3:Below w.1.size w w3:=HBL.out.drew.trans hb3))
  all_goals
   go_wp2_with fail
   first|go_ret|skip
   exact⟨Qd HR.out.symm,hz3⟩
end
end Go.Proofs.YtmfjmngebldanaaGreatDoor
