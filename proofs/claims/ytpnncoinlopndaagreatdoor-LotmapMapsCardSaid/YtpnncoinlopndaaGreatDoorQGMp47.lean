/- . -/
import Derived.Test.YtpnncoinlopndaaGreatDoorQGMp31
import Derived.Test.YtpnncoinlopndaaGreatDoorQGMp33
import Derived.Test.YtpnncoinlopndaaGreatDoorQGMp32
set_option maxRecDepth 100000
set_option maxHeartbeats 16000000
namespace Go.Proofs.YtpnncoinlopndaaGreatDoor
open Go.Lib renaming hid→jq
open Go.RowKit Go.Shelf
section
theorem ZgV(q:Rat):(Qf q).raw.n=Qa q.num/\(Qf q).raw.d=Qa q.den:=by
 have hd:(0:Int)<q.den:=by have:=q.den_pos;omega
 unfold Qf Fr.raw
 by_cases h1:q.den=1
 ·simp only[if_pos h1,XK];refine⟨by simp,?_⟩;rw[h1,if_pos trivial];decide+kernel
 ·simp only[if_neg h1,Qc];rw[if_neg (by omega),if_neg (by omega),if_neg (by omega)];exact⟨rfl,rfl⟩
theorem Zlq(m:Mp):Qe [] m={exact:=0,parts:=0,part:=0,moved:=0,taken:=0,cash:=0,n:=[],m:=[],f:=[],p:=[]}:=by
 have e1:(((([]:List Lot).map fun x=>val x.q).sum:Int):Rat)*m.ratio.rat=0:=by
  show((0:Int):Rat)*m.ratio.rat=0
  rw[show((0:Int):Rat)=0 from rfl,Rat.zero_mul]
 have e2:m.share.rat*(((([]:List Lot).map fun x=>val x.c).sum:Int):Rat)=0:=by
  show m.share.rat*((0:Int):Rat)=0
  rw[show((0:Int):Rat)=0 from rfl,Rat.mul_zero]
 unfold Qe;simp only[e1,e2];have f0:QK 0=0:=by decide+kernel
 have r0:JY 0=0:=by decide+kernel
 rw[f0,r0,show((0:Rat)-((0:Int):Rat))=0 by rw[show((0:Int):Rat)=0 from rfl];decide+kernel,if_pos rfl,Rat.zero_mul,r0];rfl
theorem ZdX(old:List Lot):(old.map (·.q)).map val=old.map fun y=>val y.q:=by rw[List.map_map];rfl
theorem ZgW(old:List Lot):(old.map (·.c)).map val=old.map fun y=>val y.c:=by rw[List.map_map];rfl
theorem ZgX(l:List Int):(l.map Qa).map val=l:=by rw[List.map_map,show(val ∘ Qa)=id from funext fun n=>Qc n,List.map_id]
structure CzC (old:List Lot) (m:Mp) (x:Plan):Prop where
 sumq:∀W A c,XA W W.1.size A old.length (old.map (·.q))->Calls Tryz.prog 69 #[.slice A old.length c] W (Qh (Qa (old.map fun y=>val y.q).sum) W)
 sumc:∀W A c,XA W W.1.size A old.length (old.map (·.c))->Calls Tryz.prog 69 #[.slice A old.length c] W (Qh (Qa (old.map fun y=>val y.c).sum) W)
 parts:∀W,Env W->Calls Tryz.prog 17 #[S (Qa (old.map fun y=>val y.q).sum),QC m.ratio] W fun e w'=>e=.returned (.tuple #[S (Qa x.parts),QC (Qf x.part),.int .i64 0])/\Below W.1.size W w'
 of1:∀W,Calls Tryz.prog 49 #[S (Qa (old.map fun y=>val y.c).sum)] W (Qg (Qf (((old.map fun y=>val y.c).sum:Int):Rat)) W)
 mul1:∀W,Calls Tryz.prog 56 #[QC m.share,QC (Qf (((old.map fun y=>val y.c).sum:Int):Rat))] W (Qg (Qf (m.share.rat*(((old.map fun y=>val y.c).sum:Int):Rat))) W)
 rnd1:Xb 87 #[QC (Qf (m.share.rat*(((old.map fun y=>val y.c).sum:Int):Rat)))] (S (Qa x.moved))
 mul2:∀W,Calls Tryz.prog 56 #[QC (Qf x.part),QC m.price] W (Qg (Qf (x.part*m.price.rat)) W)
 rnd2:Xb 87 #[QC (Qf (x.part*m.price.rat))] (S (Qa x.cash))
 of2:∀W,Calls Tryz.prog 49 #[S (Qa (old.map fun y=>val y.q).sum)] W (Qg (Qf (((old.map fun y=>val y.q).sum:Int):Rat)) W)
 mul3:∀W,Calls Tryz.prog 56 #[QC (Qf (((old.map fun y=>val y.q).sum:Int):Rat)),QC m.ratio] W (Qg (Qf x.exact) W)
 prt:∀W,Calls Tryz.prog 88 #[QC (Qf x.exact)] W (QS (Qa x.exact.num) (Qa x.exact.den) W)
 mul4:∀W,Calls Tryz.prog 90 #[S (Qa x.parts),S (Qa x.exact.den)] W (Qh (Qa (x.parts*x.exact.den)) W)
 sub1:∀W,Calls Tryz.prog 35 #[S (Qa x.exact.num),S (Qa (x.parts*x.exact.den))] W (Qh (Qa (Yr x.exact)) W)
 shr:x.part≠0->x.parts≠0->Xb 89 #[S (Qa x.moved),S (Qa (Yr x.exact)),S (Qa x.exact.num)] (.tuple #[S (Qa x.taken),S (Qa (x.moved-x.taken)),.int .i64 0])
 sp1:∀W A c,Env W->XA W W.1.size A old.length (old.map (·.q))->Calls Tryz.prog 91 #[S (Qa x.parts),.slice A old.length c] W (Xo x.n old.length W)
 sp2:∀W A c,Env W->XA W W.1.size A old.length (old.map (·.c))->Calls Tryz.prog 91 #[S (Qa x.moved),.slice A old.length c] W (Xo x.m old.length W)
 sp3:∀W A c,Env W->XA W W.1.size A old.length (old.map (·.q))->Calls Tryz.prog 91 #[S (Qa x.cash),.slice A old.length c] W (Xo x.p old.length W)
 sp4:∀W A c,Env W->XA W W.1.size A old.length (x.m.map Qa)->Calls Tryz.prog 91 #[S (Qa x.taken),.slice A old.length c] W (Xo x.f old.length W)
theorem czC{old:List Lot}{m:Mp}{L:Nat}(h:∀y∈old,y.Ok)(hm:m.Ok)(ho:old≠[])(hl:old.length<=1000)(hL1:1<=L)(hL:L<=200)(hq:∀y∈old,y.q.length<=L)(hc:∀y∈old,y.c.length<=L)
 (hr:m.ratio.Sz L) (hs:m.share.Sz L) (hpr:m.price.Sz L):CzC old m (Qe old m):=by
 have hk:=ZbC h hm hl hL1 hq hc hr hpr;have hok:=Jt h hm;obtain⟨nq,nc⟩:=YJ h
 have hsq:((old.map fun y=>val y.q).sum).natAbs<10^(L+4):=Za4 (fun y hy=>Qz (hq y hy)) hl;have hsc:((old.map fun y=>val y.c).sum).natAbs<10^(L+4):=Za4 (fun y hy=>Qz (hc y hy)) hl;have hq0:0<=(old.map fun y=>val y.q).sum:=QP nq;have hc0:0<=(old.map fun y=>val y.c).sum:=QP nc
 have hqp:0<(old.map fun y=>val y.q).sum:=by
  cases old with
  |nil=>exact absurd rfl ho
  |cons y ys=>
   have h1:=(h y (by simp)).q0;have h2:=ZaF nq (x:=val y.q) (by simp);omega
 have lq:=Qd hsq;have lc:=Qd hsc;have rbq:=JP hsq (by omega);have rbc:=JP hsc (by omega);have zq:=QF rbq;have zc:=QF rbc;have hsr:RB (L+4) m.share.rat:=(Zae hs hL1).more (by omega);have rb1:=JO hsr rbc;have z1:=QF rb1;have zp:=QF hk.part;have rb2:=JO hk.part ((Zae hpr hL1).more (show L<=4*L+40 by omega));have z2:=QF rb2;have zx:=QF hk.ex;have lp:=Qd hk.parts;have lm:=Qd hk.moved;have lt:=Qd hk.taken;have lca:=Qd hk.cash;have hnum:=hk.ex.1;have hden:((Qe old m).exact.den:Int).natAbs<10^(4*L+40):=by simpa using hk.ex.2
 have ln:=Qd hnum;have ld:=Qd hden;have lpd:=Qd (QB hk.parts hden);have hfl:=Zbq (Qe old m).exact;have hflb:=XL (Qe old m).exact;have hpar:(Qe old m).parts=QK (Qe old m).exact:=rfl
 have hsub:(Qe old m).exact.num-(Qe old m).parts*(Qe old m).exact.den=Yr (Qe old m).exact:=by
  rw[hpar,Int.mul_comm];omega
 have canq:∀x∈old.map (·.q),QJ x=true/\0<=val x/\x.length<=1000:=by
  intro x hx;obtain⟨y,hy,rfl⟩:=List.mem_map.1 hx
  have:=(h y hy).q0;have:=hq y hy
  exact⟨(h y hy).q,by omega,by omega⟩
 have canc:∀x∈old.map (·.c),QJ x=true/\0<=val x/\x.length<=1000:=by
  intro x hx;obtain⟨y,hy,rfl⟩:=List.mem_map.1 hx
  have:=hc y hy
  exact⟨(h y hy).c,(h y hy).c0,by omega⟩
 have nm:∀x∈(Qe old m).m,0<=x:=XH hok.moved0 nc
 have canm:∀x∈(Qe old m).m.map Qa,QJ x=true/\0<=val x/\x.length<=1000:=by
  intro x hx;obtain⟨y,hy,rfl⟩:=List.mem_map.1 hx
  obtain⟨i,hi⟩:=List.getElem?_of_mem hy
  have hb:=hk.m i;rw[Zcm 0 hi] at hb;have:=Qd hb
  exact⟨Ys _,by rw[Qc];exact nm y hy,by omega⟩
 have sq:Qw (old.map (·.q))=(old.map fun y=>val y.q).sum:=by unfold Qw;rw[ZdX]
 have sc:Qw (old.map (·.c))=(old.map fun y=>val y.c).sum:=by unfold Qw;rw[ZgW]
 have hn0:0<old.length:=List.length_pos_iff.2 ho;have hsums:=VE h hm ho;refine⟨?_,?_,?_,?_,?_,?_,?_,?_,?_,?_,?_,?_,?_,?_,?_,?_,?_,?_⟩
 ·intro W A c hW;have:=JD A old.length c (old.map (·.q)) W hW (fun x hx=>by have:=(canq x hx).2.2;omega) (by omega)
  rwa [sq] at this
 ·intro W A c hW;have:=JD A old.length c (old.map (·.c)) W hW (fun x hx=>by have:=(canc x hx).2.2;omega) (by omega)
  rwa [sc] at this
 ·intro W hW;have hp:=ZgT (Qa (old.map fun y=>val y.q).sum) m.ratio W hW (by omega) (hr.more (by omega))
  have e:Zed (Qa (old.map fun y=>val y.q).sum) m.ratio=(Qa (Qe old m).parts,Qf (Qe old m).part,0):=by
   unfold Zed
   rw[if_neg (by rw[Ys];simp[hm.ratio]),Qc,if_neg (by
    rintro(h1|h1)
    ·omega
    ·exact absurd hm.r0 (Rat.not_lt.2 h1))]
   rfl
  rw[e] at hp;exact hp
 ·intro W;have:=YT (Qa (old.map fun y=>val y.c).sum) W (by omega)
  rwa [Qc] at this
 ·intro W;have:=ZbS m.share (Qf (((old.map fun y=>val y.c).sum:Int):Rat)) W (hs.more (by omega)) (zc.more (by omega))
  rwa [Qj] at this
 ·have:=ZcG (Qf (m.share.rat*(((old.map fun y=>val y.c).sum:Int):Rat))) (z1.more (by omega))
  rwa [Qj] at this
 ·intro W;have:=ZbS (Qf (Qe old m).part) m.price W (zp.more (by omega)) (hpr.more (by omega))
  rwa [Qj] at this
 ·have:=ZcG (Qf ((Qe old m).part*m.price.rat)) (z2.more (by omega))
  rwa [Qj] at this
 ·intro W;have:=YT (Qa (old.map fun y=>val y.q).sum) W (by omega)
  rwa [Qc] at this
 ·intro W;have:=ZbS (Qf (((old.map fun y=>val y.q).sum:Int):Rat)) m.ratio W (zq.more (by omega)) (hr.more (by omega))
  rwa [Qj] at this
 ·intro W;have:=ZhN (Qf (Qe old m).exact) W (zx.more (by omega)) (by rw[Qj];exact zx.more (by omega))
  rw[Qj,(ZgV _).1,(ZgV _).2] at this;exact this
 ·intro W;have:=Yb (Qa (Qe old m).parts) (Qa (Qe old m).exact.den) W (by omega) (by omega)
  rwa [Qc,Qc] at this
 ·intro W;have:=Zau (Qa (Qe old m).exact.num) (Qa ((Qe old m).parts*(Qe old m).exact.den)) W (by omega) (by omega)
  rw[Qc,Qc,hsub] at this;exact this
 ·intro h1 h2;have hp0:=hok.parts0
  have hnp:Yr (Qe old m).exact<=(Qe old m).exact.num/\0<(Qe old m).exact.num:=by
   have h3:0<QK (Qe old m).exact:=by rw[<-hpar];omega
   have h4:(0:Int)<(Qe old m).exact.den:=by omega
   have h5:0<((Qe old m).exact.den:Int)*QK (Qe old m).exact:=Int.mul_pos h4 h3;omega
  have e:(Qe old m).taken=Vm (Qe old m).moved (Yr (Qe old m).exact) (Qe old m).exact.num:=by
   show(if(Qe old m).part=0 then 0 else if(Qe old m).parts=0 then(Qe old m).moved else Vm (Qe old m).moved (Yr (Qe old m).exact) (Qe old m).exact.num)=_
   rw[if_neg h1,if_neg h2]
  rw[e];exact ZgS (K:=4*L+40) (by omega) (by omega) _ _ _ hk.moved (by omega) hnum hflb.1 hnp.1 (by omega)
 ·intro W A c hW hA;have:=VX (Qe old m).parts A old.length c (old.map (·.q)) W hW hA (by omega) (fun x hx=>(canq x hx).2.2) hn0 hl hok.parts0 (fun x hx=>(canq x hx).1) (fun x hx=>(canq x hx).2.1) (fun _=>by rw[sq];exact hqp)
  rw[ZdX] at this;exact this
 ·intro W A c hW hA;have:=VX (Qe old m).moved A old.length c (old.map (·.c)) W hW hA (by omega) (fun x hx=>(canc x hx).2.2) hn0 hl hok.moved0 (fun x hx=>(canc x hx).1) (fun x hx=>(canc x hx).2.1) (fun hne=>by rw[sc];have:=hok.moved0;have:=hok.moved1;omega)
  rw[ZgW] at this;exact this
 ·intro W A c hW hA;have:=VX (Qe old m).cash A old.length c (old.map (·.q)) W hW hA (by omega) (fun x hx=>(canq x hx).2.2) hn0 hl hok.cash0 (fun x hx=>(canq x hx).1) (fun x hx=>(canq x hx).2.1) (fun _=>by rw[sq];exact hqp)
  rw[ZdX] at this;exact this
 ·intro W A c hW hA
  have:=VX (Qe old m).taken A old.length c ((Qe old m).m.map Qa) W hW hA (by omega) (fun x hx=>(canm x hx).2.2) hn0 hl hok.taken0 (fun x hx=>(canm x hx).1) (fun x hx=>(canm x hx).2.1) (fun hne=>by
   rw[ZgQ,hsums.2.1];have:=hok.taken0;have:=hok.taken1;omega)
  rw[ZgX] at this;exact this
end
end Go.Proofs.YtpnncoinlopndaaGreatDoor
