/- PrK. -/
import Derived.Test.YtmamnnaiogidaaaGreatDoorQGU38
import Derived.Test.YtmamnnaiogidaaaGreatDoorQGU27
namespace Go.Proofs.YtmamnnaiogidaaaGreatDoor
section
open Go.RowKit Go.Shelf
theorem ZnC(old:List Lot):Qw (old.map (·.q))=(old.map fun y=>val y.q).sum:=by unfold Qw;rw[List.map_map];rfl
theorem ZnD(old:List Lot):Qw (old.map (·.c))=(old.map fun y=>val y.c).sum:=by unfold Qw;rw[List.map_map];rfl
theorem ZnE(old:List Lot):(old.map (·.q)).map val=old.map fun y=>val y.q:=by rw[List.map_map];rfl
theorem Zox(old:List Lot):(old.map (·.c)).map val=old.map fun y=>val y.c:=by rw[List.map_map];rfl
theorem Zm9(l:List Int):(l.map Qa).map val=l:=by
 rw[List.map_map];have:(val ∘ Qa)=id:=by funext x;exact Qc x
 rw[this,List.map_id]
def Gv1(r:Value)(W:World)(e:Ending)(w':World):Prop:=e=.returned r/\Below W.1.size W w'
structure PrC (N:Nat) (m:Mp) (qs ks:List (List UInt8)) (xn xm xf xp:List Int) (tsq tsk tpt tmv tfr tcs:List UInt8) (fsq fex fpt fsk fmv fcs:Fr):Prop where
 c1:∀W A c,Env W->Vk W W.1.size A N qs->Calls Tryz.prog 70 #[.slice A N c] W (Gv1 (.string ⟨tsq.toArray⟩) W)
 c2:∀W,Env W->Calls Tryz.prog 19 #[.string ⟨tsq.toArray⟩] W (Gv1 (.agg #[.string ⟨fsq.n.toArray⟩,.string ⟨fsq.d.toArray⟩]) W)
 c3:∀W,Env W->Calls Tryz.prog 42 #[.agg #[.string ⟨fsq.n.toArray⟩,.string ⟨fsq.d.toArray⟩],.agg #[.string ⟨m.ratio.n.toArray⟩,.string ⟨m.ratio.d.toArray⟩]] W (Gv1 (.agg #[.string ⟨fex.n.toArray⟩,.string ⟨fex.d.toArray⟩]) W)
 c4:∀W,Env W->Calls Tryz.prog 95 #[.agg #[.string ⟨fex.n.toArray⟩,.string ⟨fex.d.toArray⟩]] W (Gv1 (.tuple #[.string ⟨tpt.toArray⟩,.agg #[.string ⟨fpt.n.toArray⟩,.string ⟨fpt.d.toArray⟩]]) W)
 c5:∀W A c,Env W->Vk W W.1.size A N ks->Calls Tryz.prog 70 #[.slice A N c] W (Gv1 (.string ⟨tsk.toArray⟩) W)
 c6:∀W,Env W->Calls Tryz.prog 19 #[.string ⟨tsk.toArray⟩] W (Gv1 (.agg #[.string ⟨fsk.n.toArray⟩,.string ⟨fsk.d.toArray⟩]) W)
 c7:∀W,Env W->Calls Tryz.prog 42 #[.agg #[.string ⟨m.share.n.toArray⟩,.string ⟨m.share.d.toArray⟩],.agg #[.string ⟨fsk.n.toArray⟩,.string ⟨fsk.d.toArray⟩]] W (Gv1 (.agg #[.string ⟨fmv.n.toArray⟩,.string ⟨fmv.d.toArray⟩]) W)
 c8:∀W,Env W->Calls Tryz.prog 104 #[.agg #[.string ⟨fmv.n.toArray⟩,.string ⟨fmv.d.toArray⟩]] W (Gv1 (.string ⟨tmv.toArray⟩) W)
 c9:∀W A c,Env W->Vk W W.1.size A N qs->Calls Tryz.prog 105 #[.string ⟨tpt.toArray⟩,.slice A N c] W (YL xn N W)
 c10:∀W A c,Env W->Vk W W.1.size A N ks->Calls Tryz.prog 105 #[.string ⟨tmv.toArray⟩,.slice A N c] W (YL xm N W)
 c11:∀W (v:PlV),Env W->v.parts=tpt->v.part=fpt->Calls Tryz.prog 106 #[.agg (QN v),.string ⟨tmv.toArray⟩,.agg #[.string ⟨fex.n.toArray⟩,.string ⟨fex.d.toArray⟩]] W (Gv1 (.string ⟨tfr.toArray⟩) W)
 c12:∀W P,Env W->BlkB W P (Qj xm N N) 24->Calls Tryz.prog 105 #[.string ⟨tfr.toArray⟩,.slice (some ⟨P,0,none⟩) N N] W (YL xf N W)
 c13:∀W,Env W->Calls Tryz.prog 42 #[.agg #[.string ⟨fpt.n.toArray⟩,.string ⟨fpt.d.toArray⟩],.agg #[.string ⟨m.price.n.toArray⟩,.string ⟨m.price.d.toArray⟩]] W (Gv1 (.agg #[.string ⟨fcs.n.toArray⟩,.string ⟨fcs.d.toArray⟩]) W)
 c14:∀W,Env W->Calls Tryz.prog 104 #[.agg #[.string ⟨fcs.n.toArray⟩,.string ⟨fcs.d.toArray⟩]] W (Gv1 (.string ⟨tcs.toArray⟩) W)
 c15:∀W A c,Env W->Vk W W.1.size A N qs->Calls Tryz.prog 105 #[.string ⟨tcs.toArray⟩,.slice A N c] W (YL xp N W)
theorem ZgC{k:Int}{K:Nat}(h:k.natAbs<10^K):(Qg ((k:Int):Rat)).Sz (K+1):=by
 rw[Jq];exact⟨Qd h,by simp⟩
theorem Zna{old:List Lot}{m:Mp}{L:Nat}(hok:∀y∈old,y.Ok)(hm:m.Ok)(hlo:old.length<=1000)(hL:L<=100)(hL1:1<=L)(hq:∀y∈old,y.q.length<=L)(hc:∀y∈old,y.c.length<=L)
 (hr:m.ratio.Sz L) (hsh:m.share.Sz L) (hpr:m.price.Sz L):
 PrC old.length m (old.map (·.q)) (old.map (·.c)) (Qe old m).n (Qe old m).m (Qe old m).f (Qe old m).p
  (Qa (Qw (old.map (·.q)))) (Qa (Qw (old.map (·.c)))) (Qa (Qe old m).parts) (Qa (Qe old m).moved) (Qa (Qe old m).taken) (Qa (Qe old m).cash)
  (Qg ((Qw (old.map (·.q)):Int):Rat)) (Qg (Qe old m).exact) (Qg (Qe old m).part) (Qg ((Qw (old.map (·.c)):Int):Rat)) (Qg (m.share.rat*((Qw (old.map (·.c)):Int):Rat))) (Qg ((Qe old m).part*m.price.rat)):=by
 have hK:=ZaS hok hm hlo hL1 hq hc hr hpr;have hpo:=YR hok hm;obtain⟨l1,l2,l3,l4⟩:=QB old m
 obtain⟨nq,nc⟩:=Yg hok
 have hsq:(Qw (old.map (·.q))).natAbs<10^(L+4):=by rw[ZnC];exact Vb (fun y hy=>Qp (hq y hy)) hlo
 have hsc:(Qw (old.map (·.c))).natAbs<10^(L+4):=by rw[ZnD];exact Vb (fun y hy=>Qp (hc y hy)) hlo
 have z1:=ZgC hsq;have z2:=ZgC hsc;have lq:∀x∈old.map (·.q),x.length<=L:=fun x hx=>by obtain⟨y,hy,rfl⟩:=List.mem_map.1 hx;exact hq y hy
 have lc:∀x∈old.map (·.c),x.length<=L:=fun x hx=>by obtain⟨y,hy,rfl⟩:=List.mem_map.1 hx;exact hc y hy
 have q0:∀x∈old.map (·.q),0<=val x:=fun x hx=>by obtain⟨y,hy,rfl⟩:=List.mem_map.1 hx;have:=(hok y hy).q0;omega
 have c0:∀x∈old.map (·.c),0<=val x:=fun x hx=>by obtain⟨y,hy,rfl⟩:=List.mem_map.1 hx;exact(hok y hy).c0
 have qc:∀x∈old.map (·.q),Xo x=true:=fun x hx=>by obtain⟨y,hy,rfl⟩:=List.mem_map.1 hx;exact(hok y hy).q
 have cc:∀x∈old.map (·.c),Xo x=true:=fun x hx=>by obtain⟨y,hy,rfl⟩:=List.mem_map.1 hx;exact(hok y hy).c
 have hex:(Qe old m).exact=((Qw (old.map (·.q)):Int):Rat)*m.ratio.rat:=by rw[ZnC];exact hpo.ex
 have hmv:(Qe old m).moved=rnd (m.share.rat*((Qw (old.map (·.c)):Int):Rat)):=by rw[ZnD];rfl
 have hca:(Qe old m).cash=rnd ((Qe old m).part*m.price.rat):=rfl;have hpt:(Qe old m).parts=QA (Qe old m).exact:=rfl;have hpa':(Qe old m).part=(Qe old m).exact-(((Qe old m).parts:Int):Rat):=rfl;have htk:(Qe old m).taken=ZdM (Qe old m).exact (Qe old m).moved:=rfl;have hn:(Qe old m).n=YP (Qe old m).parts ((old.map (·.q)).map val):=by rw[ZnE];rfl
 have hmm:(Qe old m).m=YP (Qe old m).moved ((old.map (·.c)).map val):=by rw[Zox];rfl
 have hf:(Qe old m).f=YP (Qe old m).taken (((Qe old m).m.map Qa).map val):=by rw[Zm9];rfl
 have hp:(Qe old m).p=YP (Qe old m).cash ((old.map (·.q)).map val):=by rw[ZnE];rfl
 have mnn:∀x∈(Qe old m).m,0<=x:=Xq hpo.moved0 nc;have hp0:=hpo.parts0;have hm0:=hpo.moved0;have ht0:=hpo.taken0;have hc0:=hpo.cash0;have he0:=hpo.exact0;have ez:=Xe hK.ex;have pz:=Xe hK.part
 have mz:(Qg (m.share.rat*((Qw (old.map (·.c)):Int):Rat))).Sz (2*L+20):=by
  have:=Xe (ZaR ((Zcl hsh hL1).more (show L<=L+4 by omega)) (Zfr hsc (by omega)))
  exact this.more (by omega)
 have cz:(Qg ((Qe old m).part*m.price.rat)).Sz (10*L+90):=by
  have:=Xe (ZaR hK.part ((Zcl hpr hL1).more (show L<=4*L+40 by omega)))
  exact this.more (by omega)
 have lpt:=Qd hK.parts;have lmv:=Qd hK.moved;have ltk:=Qd hK.taken;have lca:=Qd hK.cash;have lsq:=Qd hsq;have lsc:=Qd hsc;have hKm:=hK.m;generalize Qe old m=x at*;generalize hsqe:Qw (old.map (·.q))=sq at*;generalize hsce:Qw (old.map (·.c))=sc at*;have hml:(x.m.map Qa).length=old.length:=by rw[List.length_map];exact l2
 refine⟨?_,?_,?_,?_,?_,?_,?_,?_,?_,?_,?_,?_,?_,?_,?_⟩
 ·intro W A c hW hS;have h:=Zav A old.length c _ W hW hS (fun x hx=>Nat.le_trans (lq x hx) (by omega)) (by omega);rw[hsqe] at h;exact h
 ·intro W hW;have h:=Vj (Qa sq) W hW.pow (by omega);rw[Qc] at h;exact h
 ·intro W hW;have h:=YT (Qg (sq:Rat)) m.ratio W hW.pow (z1.more (by omega)) (hr.more (by omega));rw[Qh,<-hex] at h;exact h
 ·intro W hW;have h:=ZdK (Qg x.exact) (ez.more (by omega)) W hW;rw[Qh,<-hpt,<-hpa'] at h;exact h
 ·intro W A c hW hS;have h:=Zav A old.length c _ W hW hS (fun x hx=>Nat.le_trans (lc x hx) (by omega)) (by omega);rw[hsce] at h;exact h
 ·intro W hW;have h:=Vj (Qa sc) W hW.pow (by omega);rw[Qc] at h;exact h
 ·intro W hW;have h:=YT m.share (Qg (sc:Rat)) W hW.pow (hsh.more (by omega)) (z2.more (by omega));rw[Qh] at h;exact h
 ·intro W hW;have h:=ZbE (Qg (m.share.rat*(sc:Rat))) (mz.more (by omega)) W hW;rw[Qh,<-hmv] at h;exact h
 ·intro W A c hW hS;have h:=VP (Qa x.parts) A old.length c _ W hW hS (by omega) (fun x hx=>Nat.le_trans (lq x hx) (by omega)) hlo (by rw[Qc]) (by rw[Qc];exact hp0) q0 qc;rw[Qc,<-hn] at h;exact h
 ·intro W A c hW hS;have h:=VP (Qa x.moved) A old.length c _ W hW hS (by omega) (fun x hx=>Nat.le_trans (lc x hx) (by omega)) hlo (by rw[Qc]) (by rw[Qc];exact hm0) c0 cc;rw[Qc,<-hmm] at h;exact h
 ·intro W v hW h1 h2;have h:=ZhF v x.exact x.moved W (K:=4*L+40) (by omega) (by omega) hW hK.ex hK.moved he0 (by rw[h1,<-hpt]) (by rw[h2,hpa',hpt]);rw[Yt,<-htk] at h;exact h
 ·intro W P hW hB
  have h:=VP (Qa x.taken) (some ⟨P,0,none⟩) old.length old.length (x.m.map Qa) W hW (JM hB l2) (by omega) (fun t ht=>by
   obtain⟨i,hi⟩:=List.getElem?_of_mem ht
   rw[List.getElem?_map] at hi
   cases hx:x.m[i]? with
   |none=>rw[hx] at hi;cases hi
   |some z=>
    rw[hx] at hi;have hi:Qa z=t:=Option.some.inj hi;rw[<-hi,<-Xt hx];have:=Qd (hKm i)
    omega) hlo (by rw[Qc]) (by rw[Qc];exact ht0) (fun t ht=>by obtain⟨z,hz,rfl⟩:=List.mem_map.1 ht;rw[Qc];exact mnn z hz) (fun t ht=>by obtain⟨z,hz,rfl⟩:=List.mem_map.1 ht;exact ZaI z)
  rw[Qc,<-hf] at h;exact h
 ·intro W hW;have h:=YT (Qg x.part) m.price W hW.pow (pz.more (by omega)) (hpr.more (by omega));rw[Qh] at h;exact h
 ·intro W hW;have h:=ZbE (Qg (x.part*m.price.rat)) (cz.more (by omega)) W hW;rw[Qh,<-hca] at h;exact h
 ·intro W A c hW hS;have h:=VP (Qa x.cash) A old.length c _ W hW hS (by omega) (fun x hx=>Nat.le_trans (lq x hx) (by omega)) hlo (by rw[Qc]) (by rw[Qc];exact hc0) q0 qc;rw[Qc,<-hp] at h;exact h
end
end Go.Proofs.YtmamnnaiogidaaaGreatDoor
