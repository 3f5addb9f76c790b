/- Rp7. -/
import Derived.Test.YtpnncoinlopndaaGreatDoorQGSm29
set_option maxHeartbeats 4000000
namespace Go.Proofs.YtpnncoinlopndaaGreatDoor
open Go.Lib renaming hid→hdz
section
open Go.RowKit Go.Shelf
theorem ZhY(q:Rat):(frOf q).raw.n=txtL q.num∧(frOf q).raw.d=txtL q.den:=by
 have hd:(0:Int)<q.den:=by have:=q.den_pos;omega
 unfold frOf Fr.raw
 by_cases h1:q.den=1
 ·simp only[if_pos h1,ZaD]
  refine⟨by simp,?_⟩
  rw[h1,if_pos trivial]
  decide+kernel
 ·simp only[if_neg h1,Zaa]
  rw[if_neg (by omega),if_neg (by omega),if_neg (by omega)]
  exact⟨rfl,rfl⟩
theorem ZhZ(m:Mp):planL [] m={exact:=0,parts:=0,part:=0,moved:=0,taken:=0,cash:=0,n:=[],m:=[],f:=[],p:=[]}:=by
 have e1:(((([]:List Lot).map fun x=>val x.q).sum:Int):Rat)*m.ratio.rat=0:=by
  show((0:Int):Rat)*m.ratio.rat=0
  rw[show((0:Int):Rat)=0 from rfl,Rat.zero_mul]
 have e2:m.share.rat*(((([]:List Lot).map fun x=>val x.c).sum:Int):Rat)=0:=by
  show m.share.rat*((0:Int):Rat)=0
  rw[show((0:Int):Rat)=0 from rfl,Rat.mul_zero]
 unfold planL
 simp only[e1,e2]
 have f0:flo 0=0:=by decide+kernel
 have r0:rnd 0=0:=by decide+kernel
 rw[f0,r0,show((0:Rat)-((0:Int):Rat))=0 by rw[show((0:Int):Rat)=0 from rfl];decide+kernel,if_pos rfl,Rat.zero_mul,r0]
 rfl
theorem ZfL(old:List Lot):(old.map (·.q)).map val=old.map fun y=>val y.q:=by rw[List.map_map];rfl
theorem ZfM(old:List Lot):(old.map (·.c)).map val=old.map fun y=>val y.c:=by rw[List.map_map];rfl
theorem Zhg(l:List Int):(l.map txtL).map val=l:=by rw[List.map_map,show(val ∘ txtL)=id from funext fun n=>Zaa n,List.map_id]
structure CzC (old:List Lot) (m:Mp) (x:Plan):Prop where
 sumq:∀W A c,Strs W W.heap.size A old.length (old.map (·.q))→Calls Tryz.prog 69 #[.slice A old.length c] W (StrPost (txtL (old.map fun y=>val y.q).sum) W)
 sumc:∀W A c,Strs W W.heap.size A old.length (old.map (·.c))→Calls Tryz.prog 69 #[.slice A old.length c] W (StrPost (txtL (old.map fun y=>val y.c).sum) W)
 parts:∀W,Env W→Calls Tryz.prog 17 #[S (txtL (old.map fun y=>val y.q).sum),FrV m.ratio] W fun e w'=>e=.returned (.tuple #[S (txtL x.parts),FrV (frOf x.part),.int .i64 0])∧Below W.heap.size W w'
 of1:∀W,Calls Tryz.prog 49 #[S (txtL (old.map fun y=>val y.c).sum)] W (FracPost (frOf (((old.map fun y=>val y.c).sum:Int):Rat)) W)
 mul1:∀W,Calls Tryz.prog 56 #[FrV m.share,FrV (frOf (((old.map fun y=>val y.c).sum:Int):Rat))] W (FracPost (frOf (m.share.rat*(((old.map fun y=>val y.c).sum:Int):Rat))) W)
 rnd1:Gives 87 #[FrV (frOf (m.share.rat*(((old.map fun y=>val y.c).sum:Int):Rat)))] (S (txtL x.moved))
 mul2:∀W,Calls Tryz.prog 56 #[FrV (frOf x.part),FrV m.price] W (FracPost (frOf (x.part*m.price.rat)) W)
 rnd2:Gives 87 #[FrV (frOf (x.part*m.price.rat))] (S (txtL x.cash))
 of2:∀W,Calls Tryz.prog 49 #[S (txtL (old.map fun y=>val y.q).sum)] W (FracPost (frOf (((old.map fun y=>val y.q).sum:Int):Rat)) W)
 mul3:∀W,Calls Tryz.prog 56 #[FrV (frOf (((old.map fun y=>val y.q).sum:Int):Rat)),FrV m.ratio] W (FracPost (frOf x.exact) W)
 prt:∀W,Calls Tryz.prog 88 #[FrV (frOf x.exact)] W (TwoPost (txtL x.exact.num) (txtL x.exact.den) W)
 mul4:∀W,Calls Tryz.prog 90 #[S (txtL x.parts),S (txtL x.exact.den)] W (StrPost (txtL (x.parts*x.exact.den)) W)
 sub1:∀W,Calls Tryz.prog 35 #[S (txtL x.exact.num),S (txtL (x.parts*x.exact.den))] W (StrPost (txtL (flr x.exact)) W)
 shr:x.part≠0→x.parts≠0→Gives 89 #[S (txtL x.moved),S (txtL (flr x.exact)),S (txtL x.exact.num)] (.tuple #[S (txtL x.taken),S (txtL (x.moved-x.taken)),.int .i64 0])
 sp1:∀W A c,Env W→Strs W W.heap.size A old.length (old.map (·.q))→Calls Tryz.prog 91 #[S (txtL x.parts),.slice A old.length c] W (RowPost x.n old.length W)
 sp2:∀W A c,Env W→Strs W W.heap.size A old.length (old.map (·.c))→Calls Tryz.prog 91 #[S (txtL x.moved),.slice A old.length c] W (RowPost x.m old.length W)
 sp3:∀W A c,Env W→Strs W W.heap.size A old.length (old.map (·.q))→Calls Tryz.prog 91 #[S (txtL x.cash),.slice A old.length c] W (RowPost x.p old.length W)
 sp4:∀W A c,Env W→Strs W W.heap.size A old.length (x.m.map txtL)→Calls Tryz.prog 91 #[S (txtL x.taken),.slice A old.length c] W (RowPost x.f old.length W)
theorem czC{old:List Lot}{m:Mp}{L:Nat}(h:∀y∈old,y.Ok)(hm:m.Ok)(ho:old≠[])(hl:old.length≤1000)(hL1:1≤L)(hL:L≤200)(hq:∀y∈old,y.q.length≤L)(hc:∀y∈old,y.c.length≤L)
 (hr:m.ratio.Sz L) (hs:m.share.Sz L) (hpr:m.price.Sz L):CzC old m (planL old m):=by
 have hk:=Zds h hm hl hL1 hq hc hr hpr
 have hok:=Zc2 h hm
 obtain⟨nq,nc⟩:=ZbK h
 have hsq:((old.map fun y=>val y.q).sum).natAbs<10^(L+4):=Zc6 (fun y hy=>Zai (hq y hy)) hl
 have hsc:((old.map fun y=>val y.c).sum).natAbs<10^(L+4):=Zc6 (fun y hy=>Zai (hc y hy)) hl
 have hq0:0≤(old.map fun y=>val y.q).sum:=Zas nq
 have hc0:0≤(old.map fun y=>val y.c).sum:=Zas nc
 have hqp:0<(old.map fun y=>val y.q).sum:=by
  cases old with
  |nil=>exact absurd rfl ho
  |cons y ys=>
   have h1:=(h y (by simp)).q0
   have h2:=Zdp nq (x:=val y.q) (by simp)
   omega
 have lq:=Zab hsq;have lc:=Zab hsc
 have rbq:=Zc7 hsq (by omega);have rbc:=Zc7 hsc (by omega)
 have zq:=Zam rbq;have zc:=Zam rbc
 have hsr:RB (L+4) m.share.rat:=(Zd7 hs hL1).more (by omega)
 have rb1:=ZcO hsr rbc
 have z1:=Zam rb1
 have zp:=Zam hk.part
 have rb2:=ZcO hk.part ((Zd7 hpr hL1).more (show L≤4*L+40 by omega))
 have z2:=Zam rb2
 have zx:=Zam hk.ex
 have lp:=Zab hk.parts;have lm:=Zab hk.moved;have lt:=Zab hk.taken;have lca:=Zab hk.cash
 have hnum:=hk.ex.1
 have hden:((planL old m).exact.den:Int).natAbs<10^(4*L+40):=by simpa using hk.ex.2
 have ln:=Zab hnum;have ld:=Zab hden
 have lpd:=Zab (Zak hk.parts hden)
 have hfl:=Zec (planL old m).exact
 have hflb:=ZaJ (planL old m).exact
 have hpar:(planL old m).parts=flo (planL old m).exact:=rfl
 have hsub:(planL old m).exact.num-(planL old m).parts*(planL old m).exact.den=flr (planL old m).exact:=by
  rw[hpar,Int.mul_comm];omega
 have canq:∀x∈old.map (·.q),canB x=true∧0≤val x∧x.length≤1000:=by
  intro x hx
  obtain⟨y,hy,rfl⟩:=List.mem_map.1 hx
  have:=(h y hy).q0;have:=hq y hy
  exact⟨(h y hy).q,by omega,by omega⟩
 have canc:∀x∈old.map (·.c),canB x=true∧0≤val x∧x.length≤1000:=by
  intro x hx
  obtain⟨y,hy,rfl⟩:=List.mem_map.1 hx
  have:=hc y hy
  exact⟨(h y hy).c,(h y hy).c0,by omega⟩
 have nm:∀x∈(planL old m).m,0≤x:=ZaS hok.moved0 nc
 have canm:∀x∈(planL old m).m.map txtL,canB x=true∧0≤val x∧x.length≤1000:=by
  intro x hx
  obtain⟨y,hy,rfl⟩:=List.mem_map.1 hx
  obtain⟨i,hi⟩:=List.getElem?_of_mem hy
  have hb:=hk.m i
  rw[ZeA 0 hi] at hb
  have:=Zab hb
  exact⟨Zcb _,by rw[Zaa];exact nm y hy,by omega⟩
 have sq:sumV (old.map (·.q))=(old.map fun y=>val y.q).sum:=by unfold sumV;rw[ZfL]
 have sc:sumV (old.map (·.c))=(old.map fun y=>val y.c).sum:=by unfold sumV;rw[ZfM]
 have hn0:0<old.length:=List.length_pos_iff.2 ho
 have hsums:=Zcs h hm ho
 refine⟨?_,?_,?_,?_,?_,?_,?_,?_,?_,?_,?_,?_,?_,?_,?_,?_,?_,?_⟩
 ·intro W A c hW
  have:=ZbN A old.length c (old.map (·.q)) W hW (fun x hx=>by have:=(canq x hx).2.2;omega) (by omega)
  rwa [sq] at this
 ·intro W A c hW
  have:=ZbN A old.length c (old.map (·.c)) W hW (fun x hx=>by have:=(canc x hx).2.2;omega) (by omega)
  rwa [sc] at this
 ·intro W hW
  have hp:=ZeF (txtL (old.map fun y=>val y.q).sum) m.ratio W hW (by omega) (hr.more (by omega))
  have e:prtR (txtL (old.map fun y=>val y.q).sum) m.ratio=(txtL (planL old m).parts,frOf (planL old m).part,0):=by
   unfold prtR
   rw[if_neg (by rw[Zcb];simp[hm.ratio]),Zaa,if_neg (by
    rintro(h1|h1)
    ·omega
    ·exact absurd hm.r0 (Rat.not_lt.2 h1))]
   rfl
  rw[e] at hp
  exact hp
 ·intro W
  have:=ZbF (txtL (old.map fun y=>val y.c).sum) W (by omega)
  rwa [Zaa] at this
 ·intro W
  have:=ZdV m.share (frOf (((old.map fun y=>val y.c).sum:Int):Rat)) W (hs.more (by omega)) (zc.more (by omega))
  rwa [Zac] at this
 ·have:=ZeC (frOf (m.share.rat*(((old.map fun y=>val y.c).sum:Int):Rat))) (z1.more (by omega))
  rwa [Zac] at this
 ·intro W
  have:=ZdV (frOf (planL old m).part) m.price W (zp.more (by omega)) (hpr.more (by omega))
  rwa [Zac] at this
 ·have:=ZeC (frOf ((planL old m).part*m.price.rat)) (z2.more (by omega))
  rwa [Zac] at this
 ·intro W
  have:=ZbF (txtL (old.map fun y=>val y.q).sum) W (by omega)
  rwa [Zaa] at this
 ·intro W
  have:=ZdV (frOf (((old.map fun y=>val y.q).sum:Int):Rat)) m.ratio W (zq.more (by omega)) (hr.more (by omega))
  rwa [Zac] at this
 ·intro W
  have:=ZiI (frOf (planL old m).exact) W (zx.more (by omega)) (by rw[Zac];exact zx.more (by omega))
  rw[Zac,(ZhY _).1,(ZhY _).2] at this
  exact this
 ·intro W
  have:=ZaY (txtL (planL old m).parts) (txtL (planL old m).exact.den) W (by omega) (by omega)
  rwa [Zaa,Zaa] at this
 ·intro W
  have:=Zdg (txtL (planL old m).exact.num) (txtL ((planL old m).parts*(planL old m).exact.den)) W (by omega) (by omega)
  rw[Zaa,Zaa,hsub] at this
  exact this
 ·intro h1 h2
  have hp0:=hok.parts0
  have hnp:flr (planL old m).exact≤(planL old m).exact.num∧0<(planL old m).exact.num:=by
   have h3:0<flo (planL old m).exact:=by rw[←hpar];omega
   have h4:(0:Int)<(planL old m).exact.den:=by omega
   have h5:0<((planL old m).exact.den:Int)*flo (planL old m).exact:=Int.mul_pos h4 h3
   omega
  have e:(planL old m).taken=shrL (planL old m).moved (flr (planL old m).exact) (planL old m).exact.num:=by
   show(if(planL old m).part=0 then 0 else if(planL old m).parts=0 then(planL old m).moved else shrL (planL old m).moved (flr (planL old m).exact) (planL old m).exact.num)=_
   rw[if_neg h1,if_neg h2]
  rw[e]
  exact Zha (K:=4*L+40) (by omega) (by omega) _ _ _ hk.moved (by omega) hnum hflb.1 hnp.1 (by omega)
 ·intro W A c hW hA
  have:=Zb2 (planL old m).parts A old.length c (old.map (·.q)) W hW hA (by omega) (fun x hx=>(canq x hx).2.2) hn0 hl hok.parts0 (fun x hx=>(canq x hx).1) (fun x hx=>(canq x hx).2.1) (fun _=>by rw[sq];exact hqp)
  rw[ZfL] at this
  exact this
 ·intro W A c hW hA
  have:=Zb2 (planL old m).moved A old.length c (old.map (·.c)) W hW hA (by omega) (fun x hx=>(canc x hx).2.2) hn0 hl hok.moved0 (fun x hx=>(canc x hx).1) (fun x hx=>(canc x hx).2.1) (fun hne=>by rw[sc];have:=hok.moved0;have:=hok.moved1;omega)
  rw[ZfM] at this
  exact this
 ·intro W A c hW hA
  have:=Zb2 (planL old m).cash A old.length c (old.map (·.q)) W hW hA (by omega) (fun x hx=>(canq x hx).2.2) hn0 hl hok.cash0 (fun x hx=>(canq x hx).1) (fun x hx=>(canq x hx).2.1) (fun _=>by rw[sq];exact hqp)
  rw[ZfL] at this
  exact this
 ·intro W A c hW hA
  have:=Zb2 (planL old m).taken A old.length c ((planL old m).m.map txtL) W hW hA (by omega) (fun x hx=>(canm x hx).2.2) hn0 hl hok.taken0 (fun x hx=>(canm x hx).1) (fun x hx=>(canm x hx).2.1) (fun hne=>by
   rw[ZhU,hsums.2.1];have:=hok.taken0;have:=hok.taken1;omega)
  rw[Zhg] at this
  exact this
end
end Go.Proofs.YtpnncoinlopndaaGreatDoor
