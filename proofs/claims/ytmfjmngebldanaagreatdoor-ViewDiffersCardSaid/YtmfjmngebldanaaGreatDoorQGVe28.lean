/- Vm, Vs1, Vbl, Vm2, Y0, Vix, Vdf, Vde, Vin, Vfi. -/
import Derived.Test.YtmfjmngebldanaaGreatDoorQGVe16
import Derived.Deep.MidRow
import Derived.Great.BuildSlice
import Derived.Lib.Overlaps
import Derived.Lib.LazyBuf
import Derived.Laws.Externs
import Derived.Deep.RegionLaw
import Derived.RegionTactic
set_option maxRecDepth 100000
set_option maxHeartbeats 8000000
namespace Go.Proofs.YtmfjmngebldanaaGreatDoor
open Go.Lib renaming hid→jq
open Go.RowKit Go.Shelf
section
abbrev Fx:=Fct×FaV
def QF(x:Fx):List Value:=ftA x.1 x.2
theorem Qc(x:Fx):(QF x).length=21:=rfl
theorem QV(x:Fx):∀u∈QF x,u.oneCell'=true:=by
 intro u hu;simp only[QF,ftA,S,List.mem_cons,List.mem_nil_iff,or_false] at hu
 rcases hu with rfl|rfl|rfl|rfl|rfl|rfl|rfl|rfl|rfl|rfl|rfl|rfl|rfl|rfl|rfl|rfl|rfl|rfl|rfl|rfl|rfl<;>rfl
structure FxM (w:World) (B:Nat) (x:Fx):Prop where
 m:FaM w B x.1 x.2
 pn:x.2.pn<=100000
 on:x.2.on<=100000
 sz:x.1.Sz 1000
structure Fxs (w:World) (B:Nat) (A:Option Addr) (n:Nat) (xs:List Fx):Prop where
 sl:Sl QF 21 w B A n xs
 all:∀x∈xs,FxM w B x
section
variable {w w':World} {B B' n i:Nat} {A:Option Addr} {xs:List Fx} {x:Fx}
theorem FxM.below(h:FxM w B x)(hb:Below B w w'):FxM w' B x:=⟨h.m.below hb,h.pn,h.on,h.sz⟩
theorem FxM.more(h:FxM w B x)(hB:B<=B'):FxM w B' x:=⟨h.m.more hB,h.pn,h.on,h.sz⟩
theorem FxM.here(h:FxM w w.1.size x)(hb:Below w.1.size w w'):FxM w' w'.1.size x:=(h.below hb).more hb.size
theorem Fxs.below(h:Fxs w B A n xs)(hb:Below B w w'):Fxs w' B A n xs:=⟨h.sl.below hb,fun x hx=>(h.all x hx).below hb⟩
theorem Fxs.more(h:Fxs w B A n xs)(hB:B<=B'):Fxs w B' A n xs:=⟨h.sl.more hB,fun x hx=>(h.all x hx).more hB⟩
theorem Fxs.here(h:Fxs w w.1.size A n xs)(hb:Below w.1.size w w'):Fxs w' w'.1.size A n xs:=(h.below hb).more hb.size
theorem Fxs.len(h:Fxs w B A n xs):n=xs.length:=h.sl.1
theorem Fxs.nil:Fxs w B A 0 []:=⟨Sl.nil,fun x hx=>by cases hx⟩
theorem Zar(f:Fct)(v:FaV):(ftA f v).length=21:=rfl
theorem Qi{b off:Nat}{f:Fct}{v:FaV}(h:w.rangeAt b off (ftA f v)):(Vj (.pointer (some ⟨b,off,none⟩))).run Tryz.prog w=.ok (.agg (Qb f v)) w:=by
 have e:=run_loadAt_mid (P:=Tryz.prog) w b off 43 (ftA f v) _ h Tryz.underlying43 rfl (by rw[Zar];kernel_rfl);exact e
theorem Fxs.at_(h:Fxs w B A n xs)(hi:i<n):∃b off f v,A=some ⟨b,off,none⟩/\b<B/\xs[i]?=some (f,v)/\FxM w B (f,v)/\w.rangeAt b (off+i*21) (ftA f v):=by
 obtain⟨b,off,x,hA,hb,hx,hc⟩:=h.sl.at_ hi
 exact⟨b,off,x.1,x.2,hA,hb,hx,h.all x (List.mem_of_getElem? hx),fun j v hj=>hc j v hj⟩
theorem Qu{b off:Nat}{cs:List Value}(h:w.rangeAt b off cs)(hb:Below B w w')(hB:b<B):w'.rangeAt b off cs:=fun j v hj=>(hb.cell (p:=⟨b,off+j,none⟩) hB).trans (h j v hj)
def blF(n:Nat)(ps:Array (Nat×Value)):Sem Value:=Instr.buildSlice 22 n ps
theorem YP(n:Nat)(ps:Array (Nat×Value)):Instr.buildSlice 22 n ps=blF n ps:=rfl
theorem Vo(w:World)(f:Fct)(v:FaV):(blF 1 #[(0,.agg (Qb f v))]).run Tryz.prog w=.ok (.slice (some ⟨w.1.size,0,none⟩) 1 1) (w.alloc (.cells (Qb f v) 43)):=by
 obtain⟨i,hi,z,hz,hs⟩:∃i,Tryz.prog.info? 43=some i/\∃z,i.zero=some z/\i.size=21:=by
  have h:(Tryz.prog.info? 43).map (fun i=>(i.zero.isSome,i.size))=some (true,21):=by kernel_rfl
  cases hq:Tryz.prog.info? 43 with
  |none=>rw[hq] at h;cases h
  |some i=>
   rw[hq] at h;simp only[Option.map_some,Option.some.injEq,Prod.mk.injEq] at h
   cases hz:i.zero with
   |none=>rw[hz] at h;cases h.1
   |some z=>exact⟨i,rfl,z,hz,h.2⟩
 refine run_buildSlice w 22 43 1 _ (Qb f v) i z Tryz.underlying22 hi hz (by rw[hs];decide) (by rw[hs];decide) ?_;rw[hs];generalize hg:(fun x=>z.cells[x%z.cells.size]!)=g;have hr:Array.range (1*21)=#[0,1,2,3,4,5,6,7,8,9,10,11,12,13,14,15,16,17,18,19,20]:=by rfl
 rw[hr];simp[Instr.fill,Qb,Value.cells]
def stF(a v:Value):Sem Unit:=Instr.storeAt 43 a v
theorem Qz(a v:Value):Instr.storeAt 43 a v=stF a v:=rfl
theorem Zlp(f:Fct)(v:FaV):(Qb f v).all (·.oneCell')=true:=by
 rw[Array.all_eq_true_iff_forall_mem];intro x hx;exact QV (f,v) x (by rw[<-ZbV,List.mem_toArray] at hx;exact hx)
theorem Zlq{g:Nat}{old:Array Value}{f:Fct}{v:FaV}(hg:BlkB w g old 43)(ho:old.size=21):(stF (.pointer (some ⟨g,0,none⟩)) (.agg (Qb f v))).run Tryz.prog w=.ok () (w.setRow g (Qb f v)):=by
 have e:=run_storeVar_row (P:=Tryz.prog) w g 43 43 old (Qb f v) hg (by rw[Qg];kernel_rfl) (by rw[ho,Qg]) (Zlp f v);unfold stF;simp only[Instr.storeAt,Instr.sureAddr,Sem.run_bind,Sem.run_pure,Result.andThen_ok,e]
theorem QB(w:World){cs:Array Value}(f:Fct)(v:FaV)(hc:cs.size=21):(stF (.pointer (some ⟨w.1.size,0,none⟩)) (.agg (Qb f v))).run Tryz.prog (w.alloc (.cells cs 43))=.ok () (w.alloc (.cells (Qb f v) 43)):=by
 rw[Zlq (show BlkB (w.alloc (.cells cs 43)) w.1.size cs 43 from heap_alloc_new w _) hc,World.setRow_alloc_new]
end
end
section
attribute [local go_sem] Oper.semAt_some
attribute [local go_sem ↓] Go.wp_at_zero Go.wp_at_succ
theorem Zaw{α:Type}{xs ys:List α}{k:Nat}{x:α}(h:xs.take k=ys.take k)(hx:xs[k]?=some x)(hy:ys[k]?=some x):xs.take (k+1)=ys.take (k+1):=by
 obtain⟨h1,e1⟩:=List.getElem?_eq_some_iff.1 hx
 obtain⟨h2,e2⟩:=List.getElem?_eq_some_iff.1 hy
 rw[List.take_succ_eq_append_getElem h1,List.take_succ_eq_append_getElem h2,h,e1,e2]
theorem Zjs(A A':Option Addr)(n n' c c':Nat)(xs ys:List Pk)(w:World)(h1:Pks w w.1.size A n xs)(h2:Pks w w.1.size A' n' ys)(hn:n<=100000)(hn':n'<=100000):
 Calls Tryz.prog 65 #[.slice A n c,.slice A' n' c'] w fun e w'=>e=.returned (.bool (decide (xs=ys)))/\Below w.1.size w w':=by
 have H1:=jq h1;have H2:=jq h2;have HB0:=jq (Below.refl w.1.size w)
 by_cases hnn:n=n'
 case neg=>
  have HR:=jq (show decide (xs=ys)=false from decide_eq_false fun e=>hnn (by rw[h1.1,h2.1,e]));generalize decide (xs=ys)=res at*;have hne:((n:Int) !=(n':Int))=true:=by simp;omega
  clear h1 h2 hnn;go_enter Tryz.func65,Tryz.ntmps65
  go_wp2_with fail
  first|go_ret|skip
  rw[HR.out];exact⟨rfl,HB0.out⟩
 subst hnn;have HT:=jq (fun h=>decide_eq_true (p:=xs=ys) h);have HF:=jq (fun h=>decide_eq_false (p:=xs=ys) h);generalize decide (xs=ys)=res at*;clear h1 h2;have hne:((n:Int) !=(n:Int))=false:=by simp
 go_enter Tryz.func65,Tryz.ntmps65
 go_wp2_with fail
 go_loopw [5,13] (fun _ j wr=>∃k:Nat,k<=n/\j=.int .i64 k/\Hid (Below w.1.size w wr)/\Hid (xs.take k=ys.take k)) (fun _ j _=>n-(intOf j).toNat)
 case atStart=>exact⟨0,Nat.zero_le _,rfl,Below.refl _ _,rfl⟩
 case round=>
  obtain⟨k,hk,rfl,HB,HE⟩:=hrel
  by_cases hlt:k<n
  ·obtain⟨b,off,y,rfl,hb,hy,d0,d1⟩:=(H1.out.here HB.out).pk hlt
   obtain⟨b2,off2,z,rfl,hb2,hz,e0,e1⟩:=(H2.out.here HB.out).pk hlt
   have i1:(0:Int)<=(k:Int):=by omega
   have i2:(k:Int)<(n:Int):=by omega
   by_cases hyz:y=z
   ·subst hyz;have HE2:=jq (Zaw HE.out hy hz);clear hy hz hb hb2;unfold S at*
    go_upto_region 6 with (fail)
    go_region_held3 (fun X=>X.cell? ⟨b,off+k*2,none⟩=some (.string ⟨y.lot.toArray⟩)/\X.cell? ⟨b,off+k*2+1,none⟩=some (.string ⟨y.q.toArray⟩)/\X.cell? ⟨b2,off2+k*2,none⟩=some (.string ⟨y.lot.toArray⟩)/\X.cell? ⟨b2,off2+k*2+1,none⟩=some (.string ⟨y.q.toArray⟩)) (go_keep) (fail)
    all_goals
     go_wp2_with fail
     exact⟨⟨k+1,by omega,by simp,HB.out.drew,HE2.out⟩,by simp[intOf];omega⟩
   ·have HNE:=jq (HF.out fun e=>hyz (by rw[e,hz] at hy;injection hy with hy;exact hy.symm));clear hy hz hb hb2;unfold S at*
    have hd:y.lot≠z.lot\/y.q≠z.q:=by
     obtain⟨y1,y2⟩:=y
     obtain⟨z1,z2⟩:=z
     simp only[Pk.mk.injEq,ne_eq] at hyz ⊢;simpa only[Classical.not_and_iff_not_or_not,or_assoc] using hyz
    clear hyz
    rcases hd with hd|hd
    all_goals
     have hd2:=beq_false_of_ne hd;clear hd;go_upto_region 6 with (fail)
     go_region_held3 (fun X=>X.cell? ⟨b,off+k*2,none⟩=some (.string ⟨y.lot.toArray⟩)/\X.cell? ⟨b,off+k*2+1,none⟩=some (.string ⟨y.q.toArray⟩)/\X.cell? ⟨b2,off2+k*2,none⟩=some (.string ⟨z.lot.toArray⟩)/\X.cell? ⟨b2,off2+k*2+1,none⟩=some (.string ⟨z.q.toArray⟩)) (go_keep) (fail)
     all_goals
      go_wp2_with fail
      first|go_ret|skip
      rw[HNE.out];exact⟨rfl,HB.out.drew⟩
  ·obtain rfl:k=n:=by omega
   have HR:=jq (HT.out (by have h:=HE.out;rwa [List.take_of_length_le (by rw[<-H1.out.1];exact Nat.le_refl _),List.take_of_length_le (by rw[<-H2.out.1];exact Nat.le_refl _)] at h));go_wp2_with fail
   first|go_ret|skip
   rw[HR.out];exact⟨rfl,HB.out⟩
theorem Zjt(A A':Option Addr)(n n' c c':Nat)(xs ys:List Opn)(w:World)(h1:Ops w w.1.size A n xs)(h2:Ops w w.1.size A' n' ys)(hn:n<=100000)(hn':n'<=100000):
 Calls Tryz.prog 66 #[.slice A n c,.slice A' n' c'] w fun e w'=>e=.returned (.bool (decide (xs=ys)))/\Below w.1.size w w':=by
 have H1:=jq h1;have H2:=jq h2;have HB0:=jq (Below.refl w.1.size w)
 by_cases hnn:n=n'
 case neg=>
  have HR:=jq (show decide (xs=ys)=false from decide_eq_false fun e=>hnn (by rw[h1.1,h2.1,e]));generalize decide (xs=ys)=res at*;have hne:((n:Int) !=(n':Int))=true:=by simp;omega
  clear h1 h2 hnn;go_enter Tryz.func66,Tryz.ntmps66
  go_wp2_with fail
  first|go_ret|skip
  rw[HR.out];exact⟨rfl,HB0.out⟩
 subst hnn;have HT:=jq (fun h=>decide_eq_true (p:=xs=ys) h);have HF:=jq (fun h=>decide_eq_false (p:=xs=ys) h);generalize decide (xs=ys)=res at*;clear h1 h2;have hne:((n:Int) !=(n:Int))=false:=by simp
 go_enter Tryz.func66,Tryz.ntmps66
 go_wp2_with fail
 go_loopw [5,13] (fun _ j wr=>∃k:Nat,k<=n/\j=.int .i64 k/\Hid (Below w.1.size w wr)/\Hid (xs.take k=ys.take k)) (fun _ j _=>n-(intOf j).toNat)
 case atStart=>exact⟨0,Nat.zero_le _,rfl,Below.refl _ _,rfl⟩
 case round=>
  obtain⟨k,hk,rfl,HB,HE⟩:=hrel
  by_cases hlt:k<n
  ·obtain⟨b,off,y,rfl,hb,hy,d0,d1,d2,d3,d4,d5,d6⟩:=(H1.out.here HB.out).opt hlt
   obtain⟨b2,off2,z,rfl,hb2,hz,e0,e1,e2,e3,e4,e5,e6⟩:=(H2.out.here HB.out).opt hlt
   have i1:(0:Int)<=(k:Int):=by omega
   have i2:(k:Int)<(n:Int):=by omega
   by_cases hyz:y=z
   ·subst hyz;have HE2:=jq (Zaw HE.out hy hz);clear hy hz hb hb2;unfold S at*
    go_upto_region 6 with (fail)
    go_region_held3 (fun X=>X.cell? ⟨b,off+k*7,none⟩=some (.string ⟨y.other.toArray⟩)/\X.cell? ⟨b,off+k*7+1,none⟩=some (.string ⟨y.ratio.n.toArray⟩)/\X.cell? ⟨b,off+k*7+2,none⟩=some (.string ⟨y.ratio.d.toArray⟩)/\X.cell? ⟨b,off+k*7+3,none⟩=some (.string ⟨y.price.n.toArray⟩)/\X.cell? ⟨b,off+k*7+4,none⟩=some (.string ⟨y.price.d.toArray⟩)/\X.cell? ⟨b,off+k*7+5,none⟩=some (.string ⟨y.value.n.toArray⟩)/\X.cell? ⟨b,off+k*7+6,none⟩=some (.string ⟨y.value.d.toArray⟩)/\X.cell? ⟨b2,off2+k*7,none⟩=some (.string ⟨y.other.toArray⟩)/\X.cell? ⟨b2,off2+k*7+1,none⟩=some (.string ⟨y.ratio.n.toArray⟩)/\X.cell? ⟨b2,off2+k*7+2,none⟩=some (.string ⟨y.ratio.d.toArray⟩)/\X.cell? ⟨b2,off2+k*7+3,none⟩=some (.string ⟨y.price.n.toArray⟩)/\X.cell? ⟨b2,off2+k*7+4,none⟩=some (.string ⟨y.price.d.toArray⟩)/\X.cell? ⟨b2,off2+k*7+5,none⟩=some (.string ⟨y.value.n.toArray⟩)/\X.cell? ⟨b2,off2+k*7+6,none⟩=some (.string ⟨y.value.d.toArray⟩)) (go_keep) (fail)
    all_goals
     go_wp2_with fail
     exact⟨⟨k+1,by omega,by simp,HB.out.drew,HE2.out⟩,by simp[intOf];omega⟩
   ·have HNE:=jq (HF.out fun e=>hyz (by rw[e,hz] at hy;injection hy with hy;exact hy.symm));clear hy hz hb hb2;unfold S at*
    have hd:y.other≠z.other\/y.ratio.n≠z.ratio.n\/y.ratio.d≠z.ratio.d\/y.price.n≠z.price.n\/y.price.d≠z.price.d\/y.value.n≠z.value.n\/y.value.d≠z.value.d:=by
     obtain⟨y1,⟨y2,y3⟩,⟨y4,y5⟩,⟨y6,y7⟩⟩:=y
     obtain⟨z1,⟨z2,z3⟩,⟨z4,z5⟩,⟨z6,z7⟩⟩:=z
     simp only[Opn.mk.injEq,Fr.mk.injEq,ne_eq] at hyz ⊢;simpa only[Classical.not_and_iff_not_or_not,or_assoc] using hyz
    clear hyz
    rcases hd with hd|hd|hd|hd|hd|hd|hd
    all_goals
     have hd2:=beq_false_of_ne hd;clear hd;go_upto_region 6 with (fail)
     go_region_held3 (fun X=>X.cell? ⟨b,off+k*7,none⟩=some (.string ⟨y.other.toArray⟩)/\X.cell? ⟨b,off+k*7+1,none⟩=some (.string ⟨y.ratio.n.toArray⟩)/\X.cell? ⟨b,off+k*7+2,none⟩=some (.string ⟨y.ratio.d.toArray⟩)/\X.cell? ⟨b,off+k*7+3,none⟩=some (.string ⟨y.price.n.toArray⟩)/\X.cell? ⟨b,off+k*7+4,none⟩=some (.string ⟨y.price.d.toArray⟩)/\X.cell? ⟨b,off+k*7+5,none⟩=some (.string ⟨y.value.n.toArray⟩)/\X.cell? ⟨b,off+k*7+6,none⟩=some (.string ⟨y.value.d.toArray⟩)/\X.cell? ⟨b2,off2+k*7,none⟩=some (.string ⟨z.other.toArray⟩)/\X.cell? ⟨b2,off2+k*7+1,none⟩=some (.string ⟨z.ratio.n.toArray⟩)/\X.cell? ⟨b2,off2+k*7+2,none⟩=some (.string ⟨z.ratio.d.toArray⟩)/\X.cell? ⟨b2,off2+k*7+3,none⟩=some (.string ⟨z.price.n.toArray⟩)/\X.cell? ⟨b2,off2+k*7+4,none⟩=some (.string ⟨z.price.d.toArray⟩)/\X.cell? ⟨b2,off2+k*7+5,none⟩=some (.string ⟨z.value.n.toArray⟩)/\X.cell? ⟨b2,off2+k*7+6,none⟩=some (.string ⟨z.value.d.toArray⟩)) (go_keep) (fail)
     all_goals
      go_wp2_with fail
      first|go_ret|skip
      rw[HNE.out];exact⟨rfl,HB.out.drew⟩
  ·obtain rfl:k=n:=by omega
   have HR:=jq (HT.out (by have h:=HE.out;rwa [List.take_of_length_le (by rw[<-H1.out.1];exact Nat.le_refl _),List.take_of_length_le (by rw[<-H2.out.1];exact Nat.le_refl _)] at h));go_wp2_with fail
   first|go_ret|skip
   rw[HR.out];exact⟨rfl,HB.out⟩
end
section
theorem ZhT:∀(cs:List Value) (n j:Nat) (A:Array Value),n+j+cs.length<=A.size->
 ((cs.zipIdx j).foldl (fun(B:Array Value) (x:Value×Nat)=>B.setIfInBounds (n+x.2) x.1) A).toList=A.toList.take (n+j)++cs++A.toList.drop (n+j+cs.length):=by
 intro cs
 induction cs with
 |nil=>intro n j A _;simp
 |cons c cs ih=>
  intro n j A h;rw[List.length_cons] at h ⊢;rw[List.zipIdx_cons,List.foldl_cons,ih n (j+1) _ (by simp;omega)];have hl:n+j<A.toList.length:=by simp;omega
  have e:(A.setIfInBounds (n+j) c).toList=A.toList.take (n+j)++c::A.toList.drop (n+j+1):=by
   rw[Array.toList_setIfInBounds,List.set_eq_take_append_cons_drop,if_pos hl]
  have ht:(A.toList.take (n+j)).length=n+j:=by rw[List.length_take];omega
  rw[e,show n+(j+1)=(A.toList.take (n+j)).length+1 by omega,List.take_length_add_append,show(A.toList.take (n+j)).length+1+cs.length=(A.toList.take (n+j)).length+(cs.length+1) by omega,List.drop_length_add_append];rw[List.drop_succ_cons,List.drop_drop];simp only[List.take_succ_cons,List.take_zero,List.append_assoc,List.cons_append,List.nil_append,List.append_cancel_left_eq];rw[show n+j+1+cs.length=n+j+(cs.length+1) by omega]
theorem ZhU(k:Nat):∀(l:List (Array Value)) (i:Nat) (C:Array Value),(∀a∈l,a.size=k)->C.size=(i+l.length)*k->
 ∃D,Instr.fill (fun i=>some (i*k,k)) C ((l.zipIdx i).map fun x=>(x.2,Value.agg x.1))=some D/\D.toList=C.toList.take (i*k)++l.flatMap (·.toList):=by
 intro l
 induction l with
 |nil=>
  intro i C _ hC;refine⟨C,rfl,?_⟩;rw[List.flatMap_nil,List.append_nil,List.take_of_length_le (by simp at hC;simp[hC])]
 |cons a l ih=>
  intro i C ha hC;have hk:a.size=k:=ha a (List.mem_cons_self ..);rw[List.length_cons] at hC;have hm:i*k+k<=C.size:=by rw[hC,<-Nat.succ_mul];exact Nat.mul_le_mul_right k (by omega)
  have hf:=ZhT a.toList (i*k) 0 C (by simp[hk];omega)
  have hz:(a.zipIdx.foldl (fun(B:Array Value) (x:Value×Nat)=>B.setIfInBounds (i*k+x.2) x.1) C).toList=C.toList.take (i*k)++a.toList++C.toList.drop (i*k+k):=by
   rw[<-Array.foldl_toList,Array.toList_zipIdx];have h:=hf;simp only[Nat.add_zero,Array.length_toList,hk] at h;exact h
  obtain⟨D,h1,h2⟩:=ih (i+1) (a.zipIdx.foldl (fun(B:Array Value) (x:Value×Nat)=>B.setIfInBounds (i*k+x.2) x.1) C) (fun b hb=>ha b (List.mem_cons_of_mem _ hb)) (by
   have h3:=congrArg List.length hz;rw[Array.length_toList] at h3;rw[h3];simp only[List.length_append,List.length_take,List.length_drop,Array.length_toList,hk];rw[Nat.min_eq_left (by omega),show i+1+l.length=i+(l.length+1) by omega,<-hC];omega)
  refine⟨D,?_,?_⟩
  ·rw[List.zipIdx_cons,List.map_cons];unfold Instr.fill;simp only[Value.cells,hk];rw[if_neg (by simp;omega)];exact h1
  ·have ht:(C.toList.take (i*k)).length=i*k:=by rw[List.length_take,Array.length_toList];omega
   have hak:a.toList.length=k:=by rw[Array.length_toList];exact hk
   have e3:∀(R P:List Value),P.length=i*k->(P++a.toList++R).take (i*k+k)=P++a.toList:=fun R P hP=>by
    rw[List.take_append_of_le_length (by rw[List.length_append,hP,hak];exact Nat.le_refl _),List.take_of_length_le (by rw[List.length_append,hP,hak];exact Nat.le_refl _)]
   rw[h2,hz,List.flatMap_cons,Nat.succ_mul,e3 _ _ ht,List.append_assoc]
theorem Zb7(w:World)(xs:List Fx)(ps:Array (Nat×Value))(h0:xs≠[])(hl:xs.length<=1000)(hps:ps.toList=((xs.map fun x=>Qb x.1 x.2).zipIdx 0).map fun x=>(x.2,Value.agg x.1)):
 (blF xs.length ps).run Tryz.prog w=.ok (.slice (some ⟨w.1.size,0,none⟩) xs.length xs.length) (w.alloc (.cells (xs.flatMap QF).toArray 43)):=by
 obtain⟨i,hi,z,hz,hs⟩:∃i,Tryz.prog.info? 43=some i/\∃z,i.zero=some z/\i.size=21:=by
  have h:(Tryz.prog.info? 43).map (fun i=>(i.zero.isSome,i.size))=some (true,21):=by kernel_rfl
  cases hq:Tryz.prog.info? 43 with
  |none=>rw[hq] at h;cases h
  |some i=>
   rw[hq] at h;simp only[Option.map_some,Option.some.injEq,Prod.mk.injEq] at h
   cases hz:i.zero with
   |none=>rw[hz] at h;cases h.1
   |some z=>exact⟨i,rfl,z,hz,h.2⟩
 have hne:xs.length≠0:=by cases xs;exact absurd rfl h0;simp
 refine run_buildSlice w 22 43 xs.length _ (xs.flatMap QF).toArray i z Tryz.underlying22 hi hz (by rw[hs];omega) (by rw[hs];omega) ?_;rw[hs,hps]
 obtain⟨D,h1,h2⟩:=ZhU 21 (xs.map fun x=>Qb x.1 x.2) 0 ((Array.range (xs.length*21)).map (fun x=>z.cells[x%z.cells.size]!)) (fun a ha=>by
  obtain⟨x,_,rfl⟩:=List.mem_map.1 ha
  rfl) (by simp)
 rw[h1];refine congrArg some (Array.ext' ?_);rw[h2,Nat.zero_mul,List.take_zero,List.nil_append,List.flatMap_map];rfl
end
section
theorem Sl.upto{α:Type}{enc:α->List Value}{k:Nat}{w:World}{B n m:Nat}{A:Option Addr}{xs:List α}(h:Sl enc k w B A n xs)(hm:m<=n):Sl enc k w B A m (xs.take m):=by
 refine⟨by rw[List.length_take,<-h.1];omega,fun h0=> ?_⟩;obtain⟨b,off,e,hb,hc⟩:=h.2 (by omega)
 refine⟨b,off,e,hb,fun i x hi j u hj=>hc i x ?_ j u hj⟩;rw[List.getElem?_take] at hi
 split at hi
 ·exact hi
 ·cases hi
theorem Fxs.upto{w:World}{B n m:Nat}{A:Option Addr}{xs:List Fx}(h:Fxs w B A n xs)(hm:m<=n):Fxs w B A m (xs.take m):=⟨h.sl.upto hm,fun x hx=>h.all x (List.mem_of_mem_take hx)⟩
def FsPost(l:List Fct)(e2:Int)(w:World):Ending->World->Prop:=fun e w'=>
 ∃A c ys,e=.returned (.tuple #[.slice A ys.length c,.int .i64 e2])/\Fxs w' w'.1.size A ys.length ys/\ys.map (·.1)=l/\(ys.length<=c/\(A=none->c=0)/\(∀a:Addr,A=some a->w.1.size<=a.block)/\∀y∈ys,FxM w' w.1.size y)/\Below w.1.size w w'
theorem FsPost.empty{w w':World}{e2:Int}(hb:Below w.1.size w w'):FsPost [] e2 w (.returned (.tuple #[.slice none 0 0,.int .i64 e2])) w':=⟨none,0,[],rfl,Fxs.nil,rfl,⟨Nat.le_refl _,fun _=>rfl,fun _ h=>(by cases h),fun _ h=>(by cases h)⟩,hb⟩
theorem Own.room{α:Type}{enc:α->List Value}{k base n c:Nat}{e:TypeId}{w:World}{A:Option Addr}{xs:List α}(h:Own enc k e w base (.slice A n c) xs):xs.length<=c/\(A=none->c=0)/\∀a:Addr,A=some a->base<=a.block:=by
 obtain⟨_,h2,_,h4⟩:=h.facts
 refine⟨h2,fun e=> ?_,fun a e=> ?_⟩
 all_goals rcases h4 with ⟨h6,h5,_⟩|⟨g,h5,h6,_⟩
 ·exact h5
 ·rw[e] at h5;cases h5
 ·rw[e] at h6;cases h6
 ·rw[e] at h5;cases h5;exact h6
theorem Qn{W W':World}{row:Option Nat}{B B':Nat}(hg:W.grownBy W' row)(hB:B<=W.1.size)(hBB:B<=B')(hr:∀r,row=some r->B'<=r):Below B W W':=
 ⟨hg.os,hg.tape,hg.output,hg.size,fun k hk=>hg.block k (by omega) (fun e=>by have:=hr k e.symm;omega)⟩
theorem Zaa{f:Fct}{v:FaV}:(Qb f v).setIfInBounds 1 (.int .i64 0)=Qb (Xk f) v:=rfl
theorem ZeL{W:World}{B:Nat}{f:Fct}{v:FaV}(h:FxM W B (f,v)):FxM W B (Xk f,v):=
 ⟨⟨h.m.pk,h.m.op,h.m.pc⟩,h.pn,h.on,{h.sz with stamp:=⟨by show(-9223372036854775808:Int)<=0;decide,by show(0:Int)<=9223372036854775807;decide⟩}⟩
theorem Za0{W:World}{q:Nat}{f:Fct}{v:FaV}(h:BlkB W q (Qb f v) 43):Sl QF 21 W W.1.size (some ⟨q,0,none⟩) 1 [(f,v)]:=by
 refine⟨rfl,fun _=>⟨q,0,rfl,h.lt,fun j z hj k u hk=> ?_⟩⟩
 cases j with
 |zero=>
  simp only[List.getElem?_cons_zero,Option.some.injEq] at hj;subst hj;rw[Nat.zero_mul,Nat.zero_add];exact h.cell k (by rw[<-ZbV,List.getElem?_toArray];exact hk)
 |succ j=>simp at hj
theorem QO:VP Tryz.prog 22 43 21 312:=Zal Tryz.underlying22 (by kernel_rfl) (by decide) (by decide)
end
section
theorem ZfW:∃(i:TypeInfo) (z:Value),True/\Tryz.prog.info? 43=some i/\i.zero=some z/\i.size=21/\True:=by
 have h:(Tryz.prog.info? 43).map (fun i=>(i.zero.isSome,i.size))=some (true,21):=by kernel_rfl
 cases hq:Tryz.prog.info? 43 with
 |none=>rw[hq] at h;cases h
 |some i=>
  rw[hq] at h;simp only[Option.map_some,Option.some.injEq,Prod.mk.injEq] at h
  cases hz:i.zero with
  |none=>rw[hz] at h;cases h.1
  |some z=>exact⟨i,z,trivial,rfl,hz,h.2,trivial⟩
theorem Xc(w:World):(blF 0 #[]).run Tryz.prog w=.ok (.slice (some ⟨w.1.size,0,none⟩) 0 0) (w.alloc (.cells #[] 43)):=by
 obtain⟨i0,z0,hu0,hi0,hz0,hs0,_⟩:=ZfW
 unfold blF;simp[Instr.buildSlice,run_underlying Tryz.underlying22,sizeOf,typeInfo,hi0,Instr.fill,newRow]
 rw[show(Array.map (fun _=>default) (Array.range 0):Array Value)=#[] from Array.eq_empty_of_size_eq_zero (by simp)]
def Vh(l:List Fct)(w:World):Ending->World->Prop:=fun e w'=>
 ∃A c ys,e=.returned (.slice A ys.length c)/\Own QF 21 43 w' w.1.size (.slice A ys.length c) ys/\ys.map (·.1)=l/\(∀y∈ys,FxM w' w'.1.size y)/\Below w.1.size w w'
end
section
attribute [local go_sem] Oper.semAt_some
attribute [local go_sem ↓] Ql Qz
theorem Jh(g:Nat)(cb:Array Value)(p:Fx->Bool)(A:Option Addr)(n c:Nat)(xs:List Fx)(w:World)(eg:∀args w,(callFunc g args).run Tryz.prog w=.ok (.enter g args) w)
 (hp:∀(W:World) (f:Fct) (v:FaV),(f,v)∈xs->Below w.1.size w W->Calls Tryz.prog g (#[.agg (Qb f v)]++cb) W fun e w'=>e=.returned (.bool (p (f,v)))/\Below W.1.size W w') (hr:Fxs w w.1.size A n xs) (hn:n<=1000000000):
 Calls Tryz.prog 43 #[.slice A n c,.func (.func g) #[] cb] w fun e w'=>e=.returned (.int .i64 (Zam p xs))/\Below w.1.size w w':=by
 have HPR:=jq hp;have HR:=jq hr;clear hp hr;go_enter Tryz.func43,Tryz.ntmps43
 go_wp2
 go_loopw [5,8] (fun _ i wr=>∃j:Nat,j<=n/\i=.int .i64 j/\Hid ((xs.take j).any p=false)/\Below w.1.size w wr) (fun _ i _=>n-(intOf i).toNat)
 case atStart=>exact⟨0,Nat.zero_le _,rfl,by show _=_;simp,Below.refl _ _⟩
 case round=>
  obtain⟨j,hj,rfl,HN,hb⟩:=hrel
  by_cases hlt:j<n
  ·obtain⟨b,off,f,v,rfl,hbl,hxj,_,hd⟩:=(HR.out.below hb).at_ hlt
   have hld:=Qi hd;have HX:=jq hxj;have HC:=jq (HPR.out wr f v (List.mem_of_getElem? hxj) hb);clear hxj hd
   cases hq:p (f,v) with
   |true=>
    rw[hq] at HC;have HQ:=jq hq;clear hq;go_wp2_with (go_at_fn g;refine(HC.out).mono ?_;rintro e w' ⟨rfl,hb'⟩)
    go_ret
    exact⟨Qa (Zer HX.out HQ.out HN.out).symm,hb.trans (hb'.mono hb.size)⟩
   |false=>
    rw[hq] at HC;have HQ:=jq hq;clear hq;go_wp2_with (go_at_fn g;refine(HC.out).mono ?_;rintro e w' ⟨rfl,hb'⟩)
    go_roundw
    case rel=>exact⟨j+1,by omega,by go_num,ZaP HX.out HN.out HQ.out,hb.trans (hb'.mono hb.size)⟩
    case measure=>simp[intOf];omega
  ·go_wp2
   go_ret
   exact⟨Qa (ZaO (by have:=HN.out;rwa [List.take_of_length_le (by have:=HR.out.len;omega)] at this)).symm,hb⟩
end
section
attribute [local go_sem] Oper.semAt_some
attribute [local go_sem ↓] Ql Qz
section
variable {w:World} {g n c base i:Nat} {xs:List Fx}
theorem Zdm(w:World)(g:Nat)(cs:Array Value):w.grownBy (w.setRow g cs) (some g):=⟨rfl,rfl,rfl,by simp[World.setRow],fun k _ hk=>Xl w g cs (fun e=>hk (by rw[e]))⟩
theorem Ji{w1 w2 w3:World}{r:Option Nat}(h:w1.grownBy w2 r)(k:w2.grownBy w3 r):w1.grownBy w3 r:=
 ⟨k.os.trans h.os,k.tape.trans h.tape,k.output.trans h.output,Nat.le_trans h.size k.size,fun b hb hr=>(k.block b (Nat.lt_of_lt_of_le hb h.size) hr).trans (h.block b hb hr)⟩
theorem Jj{w1 w2:World}(h:Below w1.1.size w1 w2)(r:Option Nat):w1.grownBy w2 r:=⟨h.os,h.tape,h.output,h.size,fun b hb _=>h.block b hb⟩
theorem Own.row(ho:Own QF 21 43 w base (.slice (some ⟨g,0,none⟩) n c) xs):∃cur:Array Value,BlkB w g cur 43/\n=xs.length/\n*21<=cur.size/\cur.toList.take (n*21)=xs.flatMap QF/\base<=g/\
 ∀(cs:Array Value) (ys:List Fx) (m:Nat),cs.size=cur.size->m<=n->ys.length=m->cs.toList.take (m*21)=ys.flatMap QF->Own QF 21 43 (w.setRow g cs) base (.slice (some ⟨g,0,none⟩) m c) ys:=by
 have hn:=ho.facts.1
 rcases ho.2 with ⟨h0,_⟩|⟨g',cap,cur,hv,hb,hg,hnc,hcm,hcs,ht⟩
 ·cases h0
 injection hv with a1 a2 a3;injection a1 with a1;injection a1 with a1;subst a1;subst a3
 rw[<-hn] at ht hnc
 have hl:n*21<=cur.size:=by
  have h1:=congrArg List.length ht;rw[List.length_take,Qp Qc,Array.length_toList,<-hn] at h1;omega
 refine⟨cur,hg,hn,hl,ht,hb,fun cs ys m h1 h2 h3 h4=>⟨by rw[Qp Qc],.inr ⟨g,c,cs,by rw[h3],hb,setRow_heap w g cur cs 43 (0,0) hg,by omega,hcm,by rw[h1,hcs],by rw[h3];exact h4⟩⟩⟩
theorem ZeW{cur:Array Value}{off:Nat}{f:Fct}{v:FaV}(hg:BlkB w g cur 43)(hl:off+21<=cur.size):(stF (.pointer (some ⟨g,off,none⟩)) (.agg (Qb f v))).run Tryz.prog w=.ok () (w.setRow g (splice cur.toList off (ftA f v)).toArray):=by
 have h1:=run_storeCells_at (P:=Tryz.prog) g off 43 (ftA f v) 0 cur w hg (by rw[Zar];omega) (QV (f,v));have hi:(Tryz.prog.info? 43).map (·.size)=some 21:=by kernel_rfl
 unfold stF
 cases hq:Tryz.prog.info? 43 with
 |none=>rw[hq] at hi;cases hi
 |some i=>
  have hs:i.size=21:=by rw[hq] at hi;simpa using hi
  have hc:(Value.agg (Qb f v)).cells.size=21:=Qg f v;have hcl:(Value.agg (Qb f v)).cells.toList=ftA f v:=rfl;simp[Instr.storeAt,Instr.sureAddr,storeVar,sizeOf,typeInfo,hq,hs,hc,hcl,h1,splice]
theorem Own.setF(ho:Own QF 21 43 w base (.slice (some ⟨g,0,none⟩) n c) xs)(hi:i<n)(f:Fct)(v:FaV):
 ∃w',(stF (.pointer (some ⟨g,i*21,none⟩)) (.agg (Qb f v))).run Tryz.prog w=.ok () w'/\Own QF 21 43 w' base (.slice (some ⟨g,0,none⟩) n c) (xs.set i (f,v))/\w.grownBy w' (some g):=by
 obtain⟨cur,hg,hn,hl,ht,_,hK⟩:=ho.row
 have hfit:i*21+21<=cur.size:=by omega
 have hsl:(splice cur.toList (i*21) (ftA f v)).length=cur.toList.length:=length_splice _ _ _ (by rw[Zar,Array.length_toList];exact hfit);refine⟨_,ZeW hg hfit,hK _ _ n (by rw[List.size_toArray,hsl,Array.length_toList]) (Nat.le_refl _) (by rw[List.length_set,<-hn]) ?_,Zdm w g _⟩
 show(splice cur.toList (i*21) (ftA f v)).take _=_
 refine List.ext_getElem? fun t=> ?_
 rw[List.getElem?_take]
 split
 ·rename_i h
  rw[XH _ _ _ (by rw[Zar,Array.length_toList];exact hfit),Zar];have hq:t/21<xs.length:=by omega
  have hcur:∀u,(xs.flatMap QF)[t]?=some u->cur.toList[t]?=some u:=fun u hu=>by
   rw[<-ht,List.getElem?_take_of_lt h] at hu;exact hu
  have hlk:∀x:Fx,(QF x)[t%21]?=some ((QF x)[t%21]'(by rw[Qc];omega)):=fun x=>List.getElem?_eq_getElem _
  by_cases e:t/21=i
  ·rw[if_neg (by omega),if_pos (by omega)];have h1:(xs.set i (f,v))[t/21]?=some (f,v):=by rw[e,List.getElem?_set_self (by omega)]
   have h2:=Vk Qc (xs.set i (f,v)) (t/21) (t%21) _ _ h1 (hlk _);rw[show t/21*21+t%21=t by omega] at h2;rw[h2,show t-i*21=t%21 by omega];exact hlk (f,v)
  ·have h1:(xs.set i (f,v))[t/21]?=some xs[t/21]:=by rw[List.getElem?_set_ne (fun h=>e h.symm),List.getElem?_eq_getElem hq]
   have h2:=Vk Qc (xs.set i (f,v)) (t/21) (t%21) _ _ h1 (hlk _);have h3:=Vk Qc xs (t/21) (t%21) _ _ (List.getElem?_eq_getElem hq) (hlk _);rw[show t/21*21+t%21=t by omega] at h2 h3;rw[h2];have h4:=hcur _ h3
   by_cases h5:t<i*21
   ·rw[if_pos h5];exact h4
   ·rw[if_neg h5,if_neg (by omega)];exact h4
 ·rename_i h
  rw[List.getElem?_eq_none];rw[Qp Qc,List.length_set,<-hn];omega
theorem Own.clearF(ho:Own QF 21 43 w base (.slice (some ⟨g,0,none⟩) n c) xs)(hi:i<n):
 ∃w',(∀ty,(Builtin.clear_ #[22] ty #[.slice (some ⟨g,i*21,none⟩) (n-i) (c-i)]).run Tryz.prog w=.ok (.tuple #[]) w')/\Own QF 21 43 w' base (.slice (some ⟨g,0,none⟩) i c) (xs.take i)/\w.grownBy w' (some g):=by
 obtain⟨cur,hg,hn,hl,ht,_,hK⟩:=ho.row
 obtain⟨i0,z0,hu0,hi0,hz0,hs0,hb0,hzs0,_,_⟩:=QO
 have hzl:(Builtin.zeroCells z0.cells (n-i)).size=(n-i)*21:=by simp[Builtin.zeroCells,hzs0]
 have hfit:i*21+(Builtin.zeroCells z0.cells (n-i)).toList.length<=cur.size:=by rw[Array.length_toList,hzl];omega
 have hz1:∀u∈(Builtin.zeroCells z0.cells (n-i)).toList,u.oneCell'=true:=by
  have h1:(Tryz.prog.info? 43).map (fun i=>i.zero.map (fun z=>z.cells.all (·.oneCell')))=some (some true):=by kernel_rfl
  rw[hi0] at h1;simp only[Option.map_some,Option.some.injEq] at h1;rw[hz0] at h1;simp only[Option.map_some,Option.some.injEq] at h1;rw[Array.all_eq_true_iff_forall_mem] at h1;intro u hu;unfold Builtin.zeroCells at hu;rw[Array.mem_toList_iff,Array.mem_map] at hu;obtain⟨a,ha,rfl⟩:=hu
  have hlt:a%z0.cells.size<z0.cells.size:=Nat.mod_lt _ (by rw[hzs0];decide);rw[getElem!_pos z0.cells _ hlt];exact h1 _ (Array.getElem_mem hlt)
 have h1:=run_storeCells_at (P:=Tryz.prog) g (i*21) 43 (Builtin.zeroCells z0.cells (n-i)).toList 0 cur w hg (by rw[Nat.add_zero];exact hfit) hz1;have hni:n-i≠0:=by omega
 have hsl:(splice cur.toList (i*21) (Builtin.zeroCells z0.cells (n-i)).toList).length=cur.toList.length:=length_splice _ _ _ (by rw[Array.length_toList (xs:=cur)];exact hfit);refine⟨w.setRow g (splice cur.toList (i*21) (Builtin.zeroCells z0.cells (n-i)).toList).toArray,fun ty=> ?_,hK _ _ i (by rw[List.size_toArray,hsl,Array.length_toList]) (by omega) (by rw[List.length_take];omega) ?_,Zdm w g _⟩
 ·obtain⟨m,hm⟩:∃m,n-i=m+1:=⟨n-i-1,by omega⟩
  rw[hm] at h1 ⊢;simp[Builtin.clear_,run_underlying hu0,zeroValue,typeInfo,hi0,hz0,h1,splice]
 ·show(splice cur.toList (i*21) (Builtin.zeroCells z0.cells (n-i)).toList).take _=_
  rw[Jt Qc,<-ht,List.take_take];refine List.ext_getElem? fun t=> ?_
  rw[List.getElem?_take,List.getElem?_take]
  by_cases h:t<i*21
  ·rw[if_pos h,if_pos (by omega),XH _ _ _ (by rw[Array.length_toList (xs:=cur)];exact hfit),if_pos h]
  ·rw[if_neg h,if_neg (by omega)]
end
end
section
attribute [local go_sem] Oper.semAt_some
attribute [local go_sem ↓] Ql Qz
section
variable {p:Fx->Bool} {xs zs:List Fx} {i j:Nat} {x:Fx}
theorem ZjR(h:zs.take i=(xs.take j).filter (fun x=> !p x))(hx:xs[j]?=some x)(hp:p x=true):zs.take i=(xs.take (j+1)).filter (fun x=> !p x):=by
 obtain⟨hj,rfl⟩:=List.getElem?_eq_some_iff.1 hx
 rw[List.take_succ_eq_append_getElem hj,List.filter_append,List.filter_cons_of_neg (by rw[hp];decide),List.filter_nil,List.append_nil,h]
theorem ZlM(h:zs.take i=(xs.take j).filter (fun x=> !p x))(hx:xs[j]?=some x)(hp:p x=false)(hi:i<zs.length):(zs.set i x).take (i+1)=(xs.take (j+1)).filter (fun x=> !p x):=by
 obtain⟨hj,rfl⟩:=List.getElem?_eq_some_iff.1 hx
 rw[List.take_succ_eq_append_getElem hj,List.filter_append,List.filter_cons_of_pos (by rw[hp];rfl),List.filter_nil,<-h,List.take_succ_eq_append_getElem (by rw[List.length_set];exact hi),List.getElem_set_self,List.take_set_of_le (Nat.le_refl _)]
theorem ZjS(h:zs.drop j=xs.drop j)(hi:i<=j):(zs.set i x).drop (j+1)=xs.drop (j+1):=by
 have h1:zs.drop (j+1)=xs.drop (j+1):=by rw[<-List.drop_drop,h,List.drop_drop]
 rw[List.drop_set_of_lt (by omega),h1]
end
theorem ZhY(g0:Nat)(cb:Array Value)(p:Fx->Bool)(g n c base:Nat)(xs:List Fx)(w:World)(eg:∀args w,(callFunc g0 args).run Tryz.prog w=.ok (.enter g0 args) w)
 (hp:∀(W:World) (f:Fct) (v:FaV),(f,v)∈xs->w.1.size<=W.1.size->(∀b,b<w.1.size->b≠g->W.heap[b]?=w.heap[b]?)->Calls Tryz.prog g0 (#[.agg (Qb f v)]++cb) W fun e w'=>e=.returned (.bool (p (f,v)))/\Below W.1.size W w')
 (ho:Own QF 21 43 w base (.slice (some ⟨g,0,none⟩) n c) xs) (hm:∀x∈xs,FxM w w.1.size x) (hn:n<=1000000):
 Calls Tryz.prog 47 #[.slice (some ⟨g,0,none⟩) n c,.func (.func g0) #[] cb] w fun e w'=>∃zs:List Fx,e=.returned (.slice (some ⟨g,0,none⟩) zs.length c)/\zs=xs.filter (fun x=> !p x)/\Own QF 21 43 w' base (.slice (some ⟨g,0,none⟩) zs.length c) zs/\w.grownBy w' (some g):=by
 obtain⟨hnx,hxc,hcm,_⟩:=ho.facts
 have hc63:c<=9223372036854775807:=by unfold maxLen at hcm;omega
 have hnc:n<=c:=by omega
 have HIX:=jq (Jh g0 cb p (some ⟨g,0,none⟩) n c xs w eg (fun W f v hx hb=>hp W f v hx hb.size (fun b hb' _=>hb.block b hb')) ⟨ho.sl Qc,hm⟩ (by omega));have HP:=jq hp;have HO:=jq ho;have HNX:=jq hnx;have HZ:=jq (show Zam p xs=match xs.findIdx? p with|some i=>(i:Int)|none=> -1 from rfl);generalize Zam p xs=z at*;clear hp ho hm hcm hxc
 cases hi:xs.findIdx? p with
 |none=>
  have hz:=HZ.out;rw[hi] at hz;simp only at hz
  subst hz
  have HF:=jq (show xs=xs.filter (fun x=> !p x) by
   rw[List.findIdx?_eq_none_iff] at hi;rw[List.filter_eq_self.2 fun x hx=>by rw[hi x hx];rfl])
  clear HZ hi HP hnx;go_enter Tryz.func47,Tryz.ntmps47
  go_wp2_with (go_at_call 43;refine(HIX.out).mono ?_;rintro e w' ⟨rfl,hb'⟩)
  first|go_ret|skip
  have e:=HNX.out;refine⟨xs,by show Ending.returned (.slice (some ⟨g,0,none⟩) n c)=_;rw[<-e],HF.out,?_,Jj hb' _⟩;rw[<-e];exact HO.out.below hb'
 |some i0=>
  have hz:=HZ.out;rw[hi] at hz;simp only at hz
  subst hz;rw[List.findIdx?_eq_some_iff_getElem] at hi;obtain⟨hlt,hpi,hbf⟩:=hi
  have HST:=jq (show xs.take i0=(xs.take (i0+1)).filter (fun x=> !p x) by
   rw[List.take_succ_eq_append_getElem hlt,List.filter_append,List.filter_cons_of_neg (by rw[hpi];decide),List.filter_nil,List.append_nil,List.filter_eq_self.2];intro x hx;rw[List.mem_take_iff_getElem] at hx;obtain⟨k,hk,rfl⟩:=hx
   have:=hbf k (by omega)
   simpa using this)
  have hi0:i0<n:=by omega
  have hne:((i0:Int)== -1)=false:=beq_false_of_ne (by omega);clear HZ hlt hpi hbf hnx;go_enter Tryz.func47,Tryz.ntmps47
  go_wp2_with (go_at_call 43;refine(HIX.out).mono ?_;rintro e w' ⟨rfl,hb'⟩)
  have HG0:=jq (Jj hb' (some g));have HO1:=jq (HO.out.below hb');clear hb' HIX HO
  go_loopw [5,6,7] (fun i' j' _ wr=>∃(i j:Nat) (zs:List Fx),i<j/\j<=n/\i'=.int .i64 i/\j'=.int .i64 j/\Hid (Own QF 21 43 wr base (.slice (some ⟨g,0,none⟩) n c) zs)/\Hid (zs.take i=(xs.take j).filter (fun x=> !p x))/\Hid (zs.drop j=xs.drop j)/\Hid (w.grownBy wr (some g))) (fun _ j' _ _=>n-(intOf j').toNat)
  case atStart=>exact⟨i0,i0+1,xs,by omega,by omega,rfl,by go_num,HO1.out,HST.out,rfl,HG0.out⟩
  case round=>
   clear HO1 HG0 HST;obtain⟨i,j,zs,hij,hjn,rfl,rfl,HO,HT,HD,HG⟩:=hrel
   by_cases hlt:j<n
   ·obtain⟨b,off,x,hA,_,hzx,hcx⟩:=(HO.out.sl Qc).at_ hlt
    injection hA with hA;injection hA with h1 h2;subst h1;subst h2
    obtain⟨f,v⟩:=x
    have hxx:xs[j]?=some (f,v):=by
     have h3:(zs.drop j)[0]?=(xs.drop j)[0]?:=by rw[HD.out]
     rw[List.getElem?_drop,List.getElem?_drop,Nat.add_zero,hzx] at h3;exact h3.symm
    have hld:=Qi (show wr.rangeAt g (j*21) (ftA f v) from fun k u hk=>by have:=hcx k u hk;rwa [Nat.zero_add] at this);have hst:=fun cs (hc:cs.size=21)=>QB wr f v (cs:=cs) hc
    have hbX:BlkB (wr.alloc (.cells (Qb f v) 43)) wr.1.size (Qb f v) 43:=heap_alloc_new wr _;have hgA:=Ji HG.out (World.grownBy_alloc wr (.cells (Qb f v) 43) (some g));have HX:=jq hxx;have HO2:=jq (HO.out.alloc (.cells (Qb f v) 43));have HC:=jq (HP.out (wr.alloc (.cells (Qb f v) 43)) f v (List.mem_of_getElem? hxx) hgA.size (fun b hb hne=>hgA.block b hb (fun e=>by injection e with e;exact hne e)));have HGA:=jq hgA;have HBX:=jq hbX;have HZL:=jq (show i<zs.length by have:=HO.out.facts.1;omega);clear hzx hcx hxx hgA hbX;go_upto_region 8 with (fail)
    generalize wr.alloc (.cells (Qb f v) 43)=W1 at*;clear hld hst;generalize wr.1.size=b1 at*;have hl1:=Qj HBX.out (Qg f v)
    cases hq:p (f,v) with
    |true=>
     rw[hq] at HC;have HQ:=jq hq;clear hq;go_wp2_with (go_at_fn g0;refine(HC.out).mono ?_;rintro e w3 ⟨rfl,hb3⟩)
     go_roundw
     case rel=>exact⟨i,j+1,zs,by omega,by omega,rfl,by go_num,HO2.out.below hb3,ZjR HT.out HX.out HQ.out,(show _=_ by rw[<-List.drop_drop,HD.out,List.drop_drop]),Ji HGA.out (Jj hb3 _)⟩
     case measure=>simp[intOf];omega
    |false=>
     rw[hq] at HC;have HQ:=jq hq;clear hq;have hin:i<n:=by omega
     have i1:(0:Int)<=(i:Int):=by omega
     have i2:(i:Int)<(n:Int):=by omega
     go_wp2_with (go_at_fn g0;refine(HC.out).mono ?_;rintro e w3 ⟨rfl,hb3⟩;obtain⟨w4,hsf,ho4,hg4⟩:=(HO2.out.below hb3).setF hin f v;have hl3:=Qj (HBX.out.here hb3) (Qg f v))
     go_roundw
     case rel=>exact⟨i+1,j+1,zs.set i (f,v),by omega,by omega,by go_num,by go_num,ho4,ZlM HT.out HX.out HQ.out HZL.out,ZjS HD.out (by omega),Ji (Ji HGA.out (Jj hb3 _)) hg4⟩
     case measure=>simp[intOf];omega
   ·obtain rfl:j=n:=by omega
    obtain⟨w5,hcl,ho5,hg5⟩:=HO.out.clearF hij
    have HO5:=jq ho5;have HG5:=jq hg5;have HF:=jq (show zs.take i=xs.filter (fun x=> !p x) by have h:=HT.out;rwa [List.take_of_length_le (l:=xs) (by have:=HNX.out;omega)] at h);have HL:=jq (show(zs.take i).length=i by have:=HO.out.facts.1;rw[List.length_take];omega);have hb4:¬(c=i):=by omega
    have hb5:i<=j:=by omega
    have hb6:i<=c:=by omega
    have i1:(0:Int)<=(i:Int):=by omega
    have i2:(i:Int)<=(j:Int):=by omega
    clear ho5 hg5;go_wp2_with fail
    first|go_ret|skip
    exact⟨zs.take i,by rw[HL.out];rfl,HF.out,by rw[HL.out];exact HO5.out,Ji HG.out HG5.out⟩
end
section
theorem ZeX(a:Addr)(n c:Nat)(xs:List Fx)(w:World)(hr:Sl QF 21 w w.1.size (some a) n xs)(hn:n<=1000000):
 Calls Tryz.prog 48 #[.slice (some a) n c] w (RetOwn QF 21 43 w.1.size w xs):=by
 have HR:=jq (hr.alloc (Nat.le_refl _) (.cells #[] 43));clear hr;have hnil:(binOp .eql 22 (.slice (some a) n c) (.slice none 0 0)).run Tryz.prog w=.ok (.bool false) w:=run_eql_slice_nil w 22 43 _ n c Tryz.underlying22;go_enter Tryz.func48,Tryz.ntmps48
 go_wp2_with (at_builtin;refine Qs _ rfl (.tmp 5) (.tmp 6) _ rfl QO Qc QV (base:=w.1.size) (.slice (some ⟨w.1.size,0,none⟩) 0 0) [] rfl (Own.lit w #[] 43 [] rfl Qc (Nat.le_refl _) (by simp)) _ _ n c xs rfl HR.out (by simp;omega) (by simp) ?_
              intro A3 c3 w3 ho3 hg3 _;rw[List.length_nil,Nat.zero_add] at ho3 ⊢;rw[List.nil_append] at ho3;have hb3:Below w.1.size w w3:=QK ((Below.refl _ _).alloc (Nat.le_refl _) _) hg3 (by simp) (fun g e=>by simp[Value.ownBlock] at e;omega);have HO3:=jq ho3;clear ho3 hg3)
 go_ret
 exact RetOwn.mk rfl HO3.out hb3
theorem ZeY(w:World):Calls Tryz.prog 48 #[.slice none 0 0] w (RetOwn QF 21 43 w.1.size w ([]:List Fx)):=by
 have hnil:(binOp .eql 22 (.slice none 0 0) (.slice none 0 0)).run Tryz.prog w=.ok (.bool true) w:=run_eql_slice_nil w 22 43 _ 0 0 Tryz.underlying22;go_enter Tryz.func48,Tryz.ntmps48
 go_wp2
 go_ret
 exact RetOwn.mk rfl Own.nil (Below.refl _ _)
def Vi(base:Nat)(w:World)(n:Nat)(xs:List Fx)(e:Ending)(w':World):Prop:=
 ∃A c,e=.returned (.slice A n c)/\Own QF 21 43 w' base (.slice A n c) xs/\Below base w w'
theorem ZjT(A:Option Addr)(n c vb base:Nat)(xs:List Fx)(x:Fx)(w:World)(ho:Own QF 21 43 w base (.slice A n c) xs)(hv:Sl QF 21 w w.1.size (some ⟨vb,0,none⟩) 1 [x])(hn:n<=1000000)(hbs:base<=w.1.size):
 Calls Tryz.prog 51 #[.slice A n c,.int .i64 n,.slice (some ⟨vb,0,none⟩) 1 1] w (Vi base w (n+1) (xs++[x])):=by
 obtain⟨hnx,hxc,hcm,hA⟩:=ho.facts
 have HO:=jq ho;have HV:=jq hv;have hc63:c<=9223372036854775807:=by unfold maxLen at hcm;omega
 have hnc:n<=c:=by omega
 have HRI:=jq (show ∀e w',Vi base w (n+1) (xs++[x]) e w'=∃A c,e=.returned (.slice A (n+1) c)/\Own QF 21 43 w' base (.slice A (n+1) c) (xs++[x])/\Below base w w' from fun _ _=>rfl);generalize Vi base w (n+1) (xs++[x])=post at*;have HA:=jq hA;have HN:=jq hnx;clear ho hv hcm hxc hA hnx;go_enter Tryz.func51,Tryz.ntmps51
 go_wp2_with (at_builtin;refine Qs _ rfl (.tmp 23) (.tmp 24) _ rfl QO Qc QV (base:=base) (.slice A n c) xs rfl HO.out _ _ 1 1 [x] rfl HV.out (by rw[<-HN.out];omega) hbs ?_
              intro A3 c3 w3 ho3 hg3 _;rw[<-HN.out] at ho3 ⊢;have HO3:=jq ho3;have HG3:=jq hg3;clear ho3 hg3)
 all_goals
  first|go_ret|skip
  rw[HRI.out];refine⟨A3,c3,rfl,HO3.out,QK (Below.refl _ _) HG3.out hbs (fun g e=> ?_)⟩
  rcases HA.out with ⟨rfl,_⟩|⟨g',rfl,hg1,_⟩
  ·simp[Value.ownBlock] at e
  ·simp[Value.ownBlock] at e;omega
theorem ZhZ(w:World)(vb g off lb cb:Nat)(x:Fx)(cur:Array Value)(hv:BlkB w vb (Qb x.1 x.2) 43)(hg:BlkB w g cur 43)(hc:cur.size≠0)(hne:vb≠g):
 (callFunc 75 #[.slice (some ⟨vb,0,none⟩) 1 1,.slice (some ⟨g,off,none⟩) lb cb]).run Tryz.prog w=.ok (.value (.bool false)) w:=by
 have hsa:w.shape? vb=some (43,21):=by unfold BlkB at hv;simp[World.shape?,hv,Qg]
 have hsb:w.shape? g=some (43,cur.size):=by unfold BlkB at hg;simp[World.shape?,hg]
 rw[run_callFunc_extern Tryz.func75 (by kernel_rfl) (by kernel_rfl) (by kernel_rfl) (e:=Extern.SlicesOverlaps.overlaps #[22,22] #[4]) (by kernel_rfl),
  Lib.run_overlaps_apart w 22 4 43 Tryz.underlying22 21 Tryz.sizeOf43 ⟨vb,0,none⟩ ⟨g,off,none⟩ 1 1 lb cb hne 43 43 21 cur.size hsa hsb hc (hv.frozen 0) (hv.frozen 21)]
 rfl
theorem Zh0(g n c i vb base:Nat)(xs:List Fx)(x:Fx)(w:World)(ho:Own QF 21 43 w base (.slice (some ⟨g,0,none⟩) n c) xs)(hv:BlkB w vb (Qb x.1 x.2) 43)(hne:vb≠g)(hi:i<n)(hroom:n+1<=c)(hn:n<=1000000)(_hbs:base<=w.1.size):
 Calls Tryz.prog 51 #[.slice (some ⟨g,0,none⟩) n c,.int .i64 i,.slice (some ⟨vb,0,none⟩) 1 1] w (Vi base w (n+1) (xs.take i++x::xs.drop i)):=by
 obtain⟨hnx,hxc,hcm,hA⟩:=ho.facts
 have ho2:=ho.2
 rcases ho2 with ⟨hv0,_⟩|⟨g',cap',cur,hv1,hbg,hg,hnc,_,hcs,htk⟩
 ·cases hv0
 injection hv1 with a1 a2 a3;injection a1 with a1;injection a1 with a1 _;subst a1;subst a3
 subst hnx;have hsz:(Tryz.prog.info? 43).map (·.size)=some 21:=by kernel_rfl
 have hgB:BlkB w g cur 43:=hg;have hg1:w.drew.heap[g]?=some (.cells cur.toList.toArray 43 (0,0)):=by rw[Array.toArray_toList];exact hg
 have hfl:(xs.flatMap QF).length=xs.length*21:=Qp Qc xs;have hcl:cur.toList.length=c*21:=by simpa using hcs
 have hcells:∀(j:Nat) (v:Value),(xs.flatMap QF)[j]?=some v->cur[j]?=some v:=by
  intro j v hj;rw[<-htk,List.getElem?_take] at hj
  split at hj
  ·simpa using hj
  ·cases hj
 have hcp1:∀ty dc sc,(Builtin.copy_ #[22,22] ty #[.slice (some ⟨g,(i+1)*21,none⟩) (xs.length-i) dc,.slice (some ⟨g,i*21,none⟩) (xs.length+1-i) sc]).run Tryz.prog w.drew=.ok (goInt (xs.length-i:Nat)) (w.drew.setRow g (splice cur.toList ((i+1)*21) ((xs.drop i).flatMap QF)).toArray):=fun ty dc sc=>
  VI w.drew _ _ ty 43 21 g ((i+1)*21) _ dc ⟨g,i*21,none⟩ _ sc (xs.length-i) cur.toList 43 ((xs.drop i).flatMap QF) Tryz.underlying22 hsz hg1 (by simp only[Nat.min_def];split<;>omega) (by rw[Qp Qc,List.length_drop])
   (fun j v hj=>by
     rw[Addr.add_lit]
     show w.cell? ⟨g,i*21+j,none⟩=some v
     exact hgB.cell (i*21+j) (hcells (i*21+j) v (by
      have e:(xs.flatMap QF).drop (i*21)=(xs.drop i).flatMap QF:=by
       conv=>lhs;rw[<-List.take_append_drop i xs,List.flatMap_append]
       rw[List.drop_append_of_le_length (by rw[Qp Qc,List.length_take];omega),List.drop_eq_nil_of_le (by rw[Qp Qc,List.length_take];omega),List.nil_append]
      rw[<-e,List.getElem?_drop] at hj;exact hj)))
   (by rw[Qp Qc,List.length_drop,hcl];omega) (fun v hv=>by
     obtain⟨y,_,hy⟩:=List.mem_flatMap.1 hv
     exact QV y v hy)
 obtain⟨Z1,hZ1⟩:∃Z1,Z1=splice cur.toList ((i+1)*21) ((xs.drop i).flatMap QF):=⟨_,rfl⟩
 have hz1l:Z1.length=c*21:=by rw[hZ1,length_splice _ _ _ (by rw[Qp Qc,List.length_drop,hcl];omega),hcl]
 rw[<-hZ1] at hcp1;obtain⟨W1,hW1⟩:∃W1,W1=w.drew.setRow g Z1.toArray:=⟨_,rfl⟩
 rw[<-hW1] at hcp1;have hg2:W1.heap[g]?=some (.cells Z1.toArray 43 (0,0)):=by rw[hW1];exact setRow_heap _ _ _ _ _ _ hg1
 have hv2:BlkB W1 vb (Qb x.1 x.2) 43:=by rw[hW1];exact(setRow_other _ _ _ _ hne).trans hv
 have hcp2:∀ty dc,(Builtin.copy_ #[22,22] ty #[.slice (some ⟨g,i*21,none⟩) (xs.length+1-i) dc,.slice (some ⟨vb,0,none⟩) 1 1]).run Tryz.prog W1=.ok (goInt 1) (W1.setRow g (splice Z1 (i*21) (QF x)).toArray):=fun ty dc=>
  VI W1 _ _ ty 43 21 g (i*21) _ dc ⟨vb,0,none⟩ 1 1 1 Z1 43 (QF x) Tryz.underlying22 hsz hg2 (by simp only[Nat.min_def];split<;>omega) rfl
   (fun j v hj=>by
     rw[Addr.add_lit,Nat.zero_add];exact hv2.cell j (by rw[<-ZbV,List.getElem?_toArray];exact hj))
   (by rw[hz1l,Qc];omega) (QV x)
 have HOV:=jq (fun off lb cb=>ZhZ w vb g off lb cb x cur hv hgB (by omega) hne);have HC1:=jq hcp1;have HC2:=jq hcp2;have hc63:c<=9223372036854775807:=by unfold maxLen at hcm;omega
 have HRI:=jq (show Vi base w (xs.length+1) (xs.take i++x::xs.drop i)=fun e w'=>∃A c,e=.returned (.slice A (xs.length+1) c)/\Own QF 21 43 w' base (.slice A (xs.length+1) c) (xs.take i++x::xs.drop i)/\Below base w w' from rfl)
 have HEND:=jq (show Own QF 21 43 (W1.setRow g (splice Z1 (i*21) (QF x)).toArray) base (.slice (some ⟨g,0,none⟩) (xs.length+1) c) (xs.take i++x::xs.drop i)/\Below base w (W1.setRow g (splice Z1 (i*21) (QF x)).toArray) by
  have hln:(xs.take i++x::xs.drop i).length=xs.length+1:=by rw[List.length_append,List.length_cons,List.length_take,List.length_drop];omega
  have hd7:((xs.drop i).flatMap QF).length=(xs.length-i)*21:=by rw[Qp Qc,List.length_drop]
  refine⟨⟨Qp Qc _,.inr ⟨g,c,(splice Z1 (i*21) (QF x)).toArray,by rw[hln],hbg,setRow_heap _ _ _ _ _ _ hg2,by rw[hln];exact hroom,hcm,by simp[];rw[length_splice _ _ _ (by rw[hz1l,Qc];omega),hz1l],?_⟩⟩,?_⟩
  ·rw[hln]
   show(splice Z1 (i*21) (QF x)).take _=_
   refine Zhc Qc cur.toList xs x i (by omega) (by rw[hcl];omega) (fun j hj=> ?_) _ (by rw[length_splice _ _ _ (by rw[hz1l,Qc];omega),hz1l,hcl]) (fun j=> ?_)
   ·rw[<-htk,List.getElem?_take_of_lt (by omega)]
   ·rw[XH _ _ _ (by rw[hz1l,Qc];omega),Qc]
    by_cases h1:j<i*21
    ·rw[if_pos h1,if_pos h1,hZ1,XH _ _ _ (by rw[hd7,hcl];omega),if_pos (by omega)]
    ·rw[if_neg h1,if_neg h1]
     by_cases h2:j<i*21+21
     ·rw[if_pos h2,if_pos (by omega)]
     ·rw[if_neg h2,if_neg (by omega),hZ1,XH _ _ _ (by rw[hd7,hcl];omega),if_neg (by omega),hd7]
      by_cases h3:j<(i+1)*21+(xs.length-i)*21
      ·rw[if_pos h3,if_pos (by omega)]
      ·rw[if_neg h3,if_neg (by omega)]
  ·rw[hW1];exact below_setRow (below_setRow (Below.refl _ w).drew hbg _) hbg _)
 generalize Vi base w (xs.length+1) (xs.take i++x::xs.drop i)=post at*;generalize W1.setRow g (splice Z1 (i*21) (QF x)).toArray=W2 at*;obtain⟨n,hn'⟩:∃n,n=xs.length:=⟨_,rfl⟩
 rw[<-hn'] at HC1 HC2 HRI HEND hi hroom hn ⊢;have hw1:IntKind.i64.wrap ((i:Int)+1)=(i:Int)+1:=by rw[IntKind.wrap_i64];omega
 have hb1:(0:Int)<=(i:Int)+1:=by omega
 have htn:((i:Int)+1).toNat=i+1:=by omega
 have hb2:¬(c=i+1):=by omega
 have hb3:(i:Int)<=(n:Int)+1:=by omega
 have hb4:¬(c=i):=by omega
 have hin:¬((i:Int)=(n:Int)):=by omega
 have hin2:i<=n:=by omega
 have HNX:=jq hn';clear hn';clear hcp1 hcp2 hW1 hg2 hv2 hz1l hZ1 hg hg1 hgB hfl hcl hcells hcs htk ho hA hxc hv hsz hcm;go_enter Tryz.func51,Tryz.ntmps51
 go_wp2_with (simp only[HOV.out])
 go_region_law (refine Zcg rfl (.tmp 73) (.tmp 76) 22 22 rfl (.slice (some ⟨g,(i+1)*21,none⟩) (n-i) (c-(i+1))) (.slice (some ⟨g,i*21,none⟩) (n+1-i) (c-i)) (by simp[Act.eval,Act.put]) (by simp[Act.eval,Act.put]) (HC1.out 3 (c-(i+1)) (c-i)) ?_)
 have hc2:=HC2.out 3 (c-i);go_wp2_with fail
 all_goals
  first|go_ret|skip
  rw[HRI.out];exact⟨_,_,rfl,HEND.out.1,HEND.out.2⟩
theorem Zh1(g n c i vb base:Nat)(xs:List Fx)(x:Fx)(w:World)(ho:Own QF 21 43 w base (.slice (some ⟨g,0,none⟩) n c) xs)(hv:BlkB w vb (Qb x.1 x.2) 43)(hi:i<n)(hroom:c<n+1)(hn:n<=1000000)(hbs:base<=w.1.size):
 Calls Tryz.prog 51 #[.slice (some ⟨g,0,none⟩) n c,.int .i64 i,.slice (some ⟨vb,0,none⟩) 1 1] w (Vi base w (n+1) (xs.take i++x::xs.drop i)):=by
 obtain⟨hnx,hxc,hcm,hA⟩:=ho.facts
 have ho2:=ho.2
 rcases ho2 with ⟨hv0,_⟩|⟨g',cap',cur,hv1,hbg,hg,hnc,_,hcs,htk⟩
 ·cases hv0
 injection hv1 with a1 a2 a3;injection a1 with a1;injection a1 with a1 _;subst a1;subst a3
 subst hnx;have hsz:(Tryz.prog.info? 43).map (·.size)=some 21:=by kernel_rfl
 obtain⟨i0,z0,hu0,hi0,hz0,hs0,hb0,hzs0,_,_⟩:=QO
 have hgB:BlkB w g cur 43:=hg;have hfl:(xs.flatMap QF).length=xs.length*21:=Qp Qc xs
 have hcells:∀(j:Nat) (v:Value),(xs.flatMap QF)[j]?=some v->cur[j]?=some v:=by
  intro j v hj;rw[<-htk,List.getElem?_take] at hj
  split at hj
  ·simpa using hj
  ·cases hj
 have hft:(xs.take i).flatMap QF=(xs.flatMap QF).take (i*21):=Jt Qc xs i
 have hold:(Builtin.firstCells i0.size i (.slice (some ⟨g,0,none⟩) i c)).run Tryz.prog w.drew=.ok ((xs.take i).flatMap QF).toArray w.drew:=by
  rw[hs0]
  exact run_firstCells_some w.drew 21 i ⟨g,0,none⟩ i c _ (by rw[Qp Qc,List.length_take];rw[Nat.min_eq_left (by omega)]) (fun j v hj=>by
   rw[Addr.add_lit,Nat.zero_add]
   show w.cell? ⟨g,j,none⟩=some v
   rw[hft,List.getElem?_take] at hj
   split at hj
   ·exact hgB.cell j (hcells j v hj)
   ·cases hj)
 have hkk:(xs.length:Int)+1-(i:Int)=((xs.length+1-i:Nat):Int):=by omega
 have hik:i+(xs.length+1-i)=xs.length+1:=by omega
 have hrz:=fun ty=>Lib.run_append_grow_zeros (P:=Tryz.prog) w 22 3 ty 43 i0 z0 .i64 .i64 Tryz.underlying22 Tryz.underlying3 hi0 hz0 (some ⟨g,0,none⟩) i c _ hold (xs.length+1-i) (by omega) (by omega) (by omega) (by omega) (by rw[hb0];omega) (by rw[hb0,hik];exact growslice_fits hroom (by omega))
 rw[hik] at hrz;obtain⟨G,hG⟩:∃G,G=grownCap w (xs.length+1) c 43:=⟨_,rfl⟩
 have hGn:xs.length+1<=G:=by rw[hG];exact grownCap_ge w _ _ _
 have hGm:G<=maxLen:=by rw[hG];exact grownCap_le_maxLen w _ _ _ (by unfold maxLen;omega)
 rw[<-hG] at hrz;obtain⟨R,hR⟩:∃R:Array Value,R=((xs.take i).flatMap QF).toArray++Builtin.zeroCells z0.cells (xs.length+1-i)++Builtin.zeroCells z0.cells (G-(xs.length+1)):=⟨_,rfl⟩
 rw[<-hR] at hrz;have hzl:∀k,(Builtin.zeroCells z0.cells k).size=k*21:=fun k=>by simp[Builtin.zeroCells,hzs0]
 have hRs:R.size=G*21:=by
  rw[hR,Array.size_append,Array.size_append,hzl,hzl];simp only[List.size_toArray];rw[Qp Qc,List.length_take,Nat.min_eq_left (by omega)];omega
 have hRpre:∀j,j<i*21->R.toList[j]?=(xs.flatMap QF)[j]?:=by
  intro j hj;rw[hR];simp only[Array.toList_append];rw[List.getElem?_append_left (by rw[List.length_append,Qp Qc,List.length_take];omega),List.getElem?_append_left (by rw[Qp Qc,List.length_take];omega),hft,List.getElem?_take_of_lt hj]
 clear hG hR hold;obtain⟨W1,hW1⟩:∃W1,W1=w.drew.alloc (.cells R 43):=⟨_,rfl⟩
 rw[<-hW1] at hrz;have hgw:g<w.1.size:=hgB.lt;have hvw:vb<w.1.size:=hv.lt;have hp1:W1.heap[w.1.size]?=some (.cells R.toList.toArray 43 (0,0)):=by rw[hW1,Array.toArray_toList];exact heap_alloc_new w.drew _
 have hg1:BlkB W1 g cur 43:=by rw[hW1];exact BlkB.alloc (w:=w.drew) hgB _
 have hv1:BlkB W1 vb (Qb x.1 x.2) 43:=by rw[hW1];exact BlkB.alloc (w:=w.drew) hv _
 have hrl:R.toList.length=G*21:=by simpa using hRs
 have hcp1:∀ty dc,(Builtin.copy_ #[22,22] ty #[.slice (some ⟨w.1.size,i*21,none⟩) (xs.length+1-i) dc,.slice (some ⟨vb,0,none⟩) 1 1]).run Tryz.prog W1=.ok (goInt 1) (W1.setRow w.1.size (splice R.toList (i*21) (QF x)).toArray):=fun ty dc=>
  VI W1 _ _ ty 43 21 w.1.size (i*21) _ dc ⟨vb,0,none⟩ 1 1 1 R.toList 43 (QF x) Tryz.underlying22 hsz hp1 (by simp only[Nat.min_def];split<;>omega) rfl
   (fun j v hj=>by
     rw[Addr.add_lit,Nat.zero_add];exact hv1.cell j (by rw[<-ZbV,List.getElem?_toArray];exact hj))
   (by rw[hrl,Qc];omega) (QV x)
 obtain⟨Z1,hZ1⟩:∃Z1,Z1=splice R.toList (i*21) (QF x):=⟨_,rfl⟩
 have hz1l:Z1.length=G*21:=by rw[hZ1,length_splice _ _ _ (by rw[hrl,Qc];omega),hrl]
 rw[<-hZ1] at hcp1;obtain⟨W2,hW2⟩:∃W2,W2=W1.setRow w.1.size Z1.toArray:=⟨_,rfl⟩
 rw[<-hW2] at hcp1;have hp2:W2.drew.heap[w.1.size]?=some (.cells Z1.toArray 43 (0,0)):=by rw[hW2];exact setRow_heap _ _ _ _ _ _ hp1
 have hg2:BlkB W2.drew g cur 43:=by rw[hW2];exact(setRow_other _ _ _ _ (by omega)).trans hg1
 have hd7:((xs.drop i).flatMap QF).length=(xs.length-i)*21:=by rw[Qp Qc,List.length_drop]
 have hcp2:∀ty dc sc,(Builtin.copy_ #[22,22] ty #[.slice (some ⟨w.1.size,(i+1)*21,none⟩) (xs.length-i) dc,.slice (some ⟨g,i*21,none⟩) (xs.length-i) sc]).run Tryz.prog W2.drew=.ok (goInt (xs.length-i:Nat)) (W2.drew.setRow w.1.size (splice Z1 ((i+1)*21) ((xs.drop i).flatMap QF)).toArray):=fun ty dc sc=>
  VI W2.drew _ _ ty 43 21 w.1.size ((i+1)*21) _ dc ⟨g,i*21,none⟩ _ sc (xs.length-i) Z1 43 ((xs.drop i).flatMap QF) Tryz.underlying22 hsz hp2 (by simp) hd7
   (fun j v hj=>by
     rw[Addr.add_lit]
     show W2.drew.cell? ⟨g,i*21+j,none⟩=some v
     exact hg2.cell (i*21+j) (hcells (i*21+j) v (by
      have e:(xs.flatMap QF).drop (i*21)=(xs.drop i).flatMap QF:=by
       conv=>lhs;rw[<-List.take_append_drop i xs,List.flatMap_append]
       rw[List.drop_append_of_le_length (by rw[Qp Qc,List.length_take];omega),List.drop_eq_nil_of_le (by rw[Qp Qc,List.length_take];omega),List.nil_append]
      rw[<-e,List.getElem?_drop] at hj;exact hj)))
   (by rw[hd7,hz1l];omega) (fun v hv=>by
     obtain⟨y,_,hy⟩:=List.mem_flatMap.1 hv
     exact QV y v hy)
 have HRI:=jq (show Vi base w (xs.length+1) (xs.take i++x::xs.drop i)=fun e w'=>∃A c,e=.returned (.slice A (xs.length+1) c)/\Own QF 21 43 w' base (.slice A (xs.length+1) c) (xs.take i++x::xs.drop i)/\Below base w w' from rfl)
 have HEND:=jq (show Own QF 21 43 (W2.drew.setRow w.1.size (splice Z1 ((i+1)*21) ((xs.drop i).flatMap QF)).toArray) base (.slice (some ⟨w.1.size,0,none⟩) (xs.length+1) G) (xs.take i++x::xs.drop i)/\Below base w (W2.drew.setRow w.1.size (splice Z1 ((i+1)*21) ((xs.drop i).flatMap QF)).toArray) by
  have hln:(xs.take i++x::xs.drop i).length=xs.length+1:=by rw[List.length_append,List.length_cons,List.length_take,List.length_drop];omega
  refine⟨⟨Qp Qc _,.inr ⟨w.1.size,G,(splice Z1 ((i+1)*21) ((xs.drop i).flatMap QF)).toArray,by rw[hln],hbs,setRow_heap _ _ _ _ _ _ hp2,by rw[hln];exact hGn,hGm,by rw[List.size_toArray,length_splice _ _ _ (by rw[hz1l,hd7];omega),hz1l],?_⟩⟩,?_⟩
  ·rw[hln]
   show(splice Z1 ((i+1)*21) ((xs.drop i).flatMap QF)).take _=_
   refine Zhc Qc R.toList xs x i (by omega) (by rw[hrl];omega) hRpre _ (by rw[length_splice _ _ _ (by rw[hz1l,hd7];omega),hz1l,hrl]) (fun j=> ?_);rw[XH _ _ _ (by rw[hz1l,hd7];omega),hd7]
   by_cases h1:j<i*21
   ·rw[if_pos h1,if_pos (by omega),hZ1,XH _ _ _ (by rw[hrl,Qc];omega),if_pos h1]
   ·rw[if_neg h1]
    by_cases h2:j<(i+1)*21
    ·rw[if_pos h2,if_pos h2,hZ1,XH _ _ _ (by rw[hrl,Qc];omega),if_neg h1,Qc,if_pos (by omega)]
    ·rw[if_neg h2,if_neg h2]
     by_cases h3:j<(xs.length+1)*21
     ·rw[if_pos h3,if_pos (by omega)]
     ·rw[if_neg h3,if_neg (by omega),hZ1,XH _ _ _ (by rw[hrl,Qc];omega),if_neg h1,Qc,if_neg (by omega)]
  ·rw[hW2,hW1];exact below_setRow (below_setRow (((Below.refl base w).drew.alloc (by exact hbs) _)) hbs _).drew hbs _)
 generalize Vi base w (xs.length+1) (xs.take i++x::xs.drop i)=post at*;generalize W2.drew.setRow w.1.size (splice Z1 ((i+1)*21) ((xs.drop i).flatMap QF)).toArray=W3 at*;rw[hkk.symm] at hrz;have HA1:=jq hrz;have HC1:=jq hcp1;have HC2:=jq hcp2;clear hrz hcp1 hcp2 hRpre hRs hrl hzl;obtain⟨n,hn'⟩:∃n,n=xs.length:=⟨_,rfl⟩
 rw[<-hn'] at HA1 HC1 HC2 HRI HEND hi hroom hn hGn ⊢;have HNX:=jq hn';clear hn';have hw1:IntKind.i64.wrap ((i:Int)+1)=(i:Int)+1:=by rw[IntKind.wrap_i64];omega
 have hb1:(0:Int)<=(i:Int)+1:=by omega
 have htn:((i:Int)+1).toNat=i+1:=by omega
 have hG63:G<=9223372036854775807:=by unfold maxLen at hGm;omega
 have hc63:c<=9223372036854775807:=by omega
 have hb2:¬(G=i+1):=by omega
 have hb3:(i:Int)<=(n:Int):=by omega
 have hb4:¬(G=i):=by omega
 have hb5:¬(c=i):=by have:=HNX.out;omega
 have hb6:i<=c:=by have:=HNX.out;omega
 have hb7:n<=c:=by have:=HNX.out;omega
 have hin:¬((i:Int)=(n:Int)):=by omega
 have hin2:i<=n:=by omega
 clear hW1 hW2 hp1 hp2 hg1 hg2 hv1 hz1l hZ1 hg hgB hfl hcells hcs htk ho hA hxc hv hsz hcm hkk hik hd7 hft hGm hu0 hi0 hz0 hs0 hb0 hzs0;have hc1:=HC1.out 3 (G-i);go_enter Tryz.func51,Tryz.ntmps51
 go_wp2_with (at_builtin;refine Lib.wpList_append_run _ rfl _ _ _ _ rfl _ _ rfl rfl _ _ (HA1.out 22) ?_)
 go_region_law (refine Zcg rfl (.tmp 50) (.tmp 53) 22 22 rfl (.slice (some ⟨w.1.size,(i+1)*21,none⟩) (n-i) (G-(i+1))) (.slice (some ⟨g,i*21,none⟩) (n-i) (c-i)) (by simp[Act.eval,Act.put]) (by simp[Act.eval,Act.put]) (HC2.out 3 (G-(i+1)) (c-i)) ?_)
 go_wp2_with fail
 all_goals
  first|go_ret|skip
  rw[HRI.out];exact⟨_,_,rfl,HEND.out.1,HEND.out.2⟩
end
section
attribute [local go_sem] Oper.semAt_some
attribute [local go_sem ↓] Ql Qz
theorem Zfu(f:Fct)(v:FaV)(key:List UInt8)(bk:Nat)(W:World)(hb:Box W bk 9 (.string ⟨key.toArray⟩)):
 Calls Tryz.prog 44 (#[.agg (Qb f v)]++#[.pointer (some ⟨bk,0,none⟩)]) W fun e w'=>e=.returned (.bool (f.key==key))/\Below W.1.size W w':=by
 have HBL:=jq ((Below.refl W.1.size W).alloc (Nat.le_refl _) (.cells (Qb f v) 43));have c0:(W.alloc (.cells (Qb f v) 43)).cell? ⟨W.1.size,0,none⟩=some (.string ⟨f.key.toArray⟩):=(cell_of_row _ _ 0 _ _ _ (heap_alloc_new W _)).trans rfl;have ck:=(hb.alloc (.cells (Qb f v) 43)).cell;generalize Qb f v=fb at*;clear hb
 show Calls _ _ #[.agg fb,.pointer (some ⟨bk,0,none⟩)] _ _
 cases hk:(f.key==key)
 all_goals
  go_enter Tryz.func44,Tryz.ntmps44
  go_wp2_with fail
  first|go_ret|skip
  exact⟨rfl,HBL.out⟩
def Yc(v:List Fct)(key:List UInt8):Value:=match Vs v key with
 |some i=>.tuple #[.int .i64 (i:Nat),.bool true]
 |none=>.tuple #[.int .i64 0,.bool false]
theorem Zgv(A:Option Addr)(n c:Nat)(xs:List Fx)(key:List UInt8)(w:World)(hs:Fxs w w.1.size A n xs)(hn:n<=1000000000):
 Calls Tryz.prog 18 #[.slice A n c,.string ⟨key.toArray⟩] w fun e w'=>e=.returned (Yc (xs.map (·.1)) key)/\Below w.1.size w w':=by
 have eg:∀args w,(callFunc 44 args).run Tryz.prog w=.ok (.enter 44 args) w:=enters_of Tryz.func44 (by kernel_rfl) rfl;have HBX:=jq (Box.new w 9 (.string ⟨key.toArray⟩));have HB0:=jq ((Below.refl w.1.size w).alloc (Nat.le_refl _) (.cells #[.string ⟨key.toArray⟩] 9))
 have HI:=jq (Jh 44 #[.pointer (some ⟨w.1.size,0,none⟩)] (fun x=>x.1.key==key) A n c xs (w.alloc (.cells #[.string ⟨key.toArray⟩] 9)) eg
  (fun W f v _ hb=>Zfu f v key w.1.size W (HBX.out.here hb)) (hs.here HB0.out) hn)
 have HF:=jq (show Vs (xs.map (·.1)) key=xs.findIdx? (fun x=>x.1.key==key) by unfold Vs;rw[List.findIdx?_map];rfl);have HZ:=jq (show Zam (fun x:Fx=>x.1.key==key) xs=match xs.findIdx? (fun x=>x.1.key==key) with|some i=>(i:Int)|none=> -1 from rfl);generalize Zam (fun x:Fx=>x.1.key==key) xs=z at*;clear hs eg HBX
 cases hi:xs.findIdx? (fun x=>x.1.key==key) with
 |none=>
  have HR:=jq (show Yc (xs.map (·.1)) key=.tuple #[.int .i64 0,.bool false] by unfold Yc;rw[HF.out,hi]);have hz:=HZ.out;rw[hi] at hz;simp only at hz
  subst hz;generalize Yc (xs.map (·.1)) key=res at*;clear HF HZ hi;go_enter Tryz.func18,Tryz.ntmps18
  go_wp2_with (go_at_call 43;refine(HI.out).mono ?_;rintro e w' ⟨rfl,hb'⟩)
  go_ret2
  rw[HR.out];exact⟨rfl,HB0.out.trans (hb'.mono HB0.out.size)⟩
 |some i=>
  have HR:=jq (show Yc (xs.map (·.1)) key=.tuple #[.int .i64 (i:Nat),.bool true] by unfold Yc;rw[HF.out,hi]);have hz:=HZ.out;rw[hi] at hz;simp only at hz
  subst hz;generalize Yc (xs.map (·.1)) key=res at*;have i1:(0:Int)<=(i:Int):=by omega
  have i2:¬(i:Int)<0:=by omega
  clear HF HZ hi;go_enter Tryz.func18,Tryz.ntmps18
  go_wp2_with (go_at_call 43;refine(HI.out).mono ?_;rintro e w' ⟨rfl,hb'⟩)
  go_ret2
  rw[HR.out];exact⟨rfl,HB0.out.trans (hb'.mono HB0.out.size)⟩
end
end Go.Proofs.YtmfjmngebldanaaGreatDoor
