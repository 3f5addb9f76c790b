/- Lp2, Mq4, Tbo, Lv, Mv, Ri, Lof, Lp3, Lp4. -/
import Derived.Test.YtpnncoinlopndaaGreatDoorQGSm8
import Derived.Laws.Concat
set_option maxRecDepth 100000
set_option maxHeartbeats 4000000
namespace Go.Proofs.YtpnncoinlopndaaGreatDoor
open Go.Lib renaming hid→hdz
section
open Go.RowKit Go.Shelf
def cntN(n:List Int)(i:Nat):Nat:=(n.take i).countP (fun a=>decide (a≠0))
def Plan.mv(x:Plan)(i:Nat):Int:=x.m.getD i 0-x.f.getD i 0
def Plan.rest(x:Plan)(i:Nat):Int:=(((List.range i).filter fun k=>decide (x.n.getD k 0=0)).map x.mv).sum
def newId(c:List UInt8)(k:Nat):List UInt8:=c++47::digs k
def newL(m:Mp)(x:Plan)(len i:Nat)(y:Lot):Lot:=
 {id:=newId m.cause (cntN x.n i+1),inst:=m.other,acq:=y.acq,opn:=y.opn,q:=txtL (x.n.getD i 0),c:=txtL (x.mv i+if cntN x.n i=0 then x.rest len else 0),u:=txtL (x.n.getD i 0)}
def freshTo(m:Mp)(x:Plan)(old:List Lot)(i:Nat):List (Nat×Lot):=
 (List.range i).filterMap fun k=>match old[k]? with|some y=>if x.n.getD k 0=0 then none else some (k,newL m x old.length k y)|none=>none
def freshL(m:Mp)(x:Plan)(old:List Lot):List (Nat×Lot):=freshTo m x old old.length
def madeL(m:Mp)(x:Plan)(old:List Lot):List Lot:=(freshL m x old).map (·.2)
def keptL(m:Mp)(ms:List Int):Nat→List Lot→List Lot
 |_,[]=>[]
 |k,y::l=>if y.inst=m.inst then(if m.keep=true then {y with c:=txtL (val y.c-ms.getD k 0)}::keptL m ms (k+1) l else keptL m ms (k+1) l) else y::keptL m ms k l
theorem Zcd(m:Mp)(x:Plan)(old:List Lot)(i:Nat):freshTo m x old (i+1)=freshTo m x old i++(match old[i]? with|some y=>if x.n.getD i 0=0 then[] else[(i,newL m x old.length i y)]|none=>[]):=by
 unfold freshTo
 rw[List.range_succ,List.filterMap_append]
 congr 1
 simp only[List.filterMap_cons,List.filterMap_nil]
 cases old[i]? with
 |none=>rfl
 |some y=>
  by_cases h:x.n.getD i 0=0
  ·simp only[if_pos h]
  ·simp only[if_neg h]
theorem Zik(m:Mp)(ms:List Int)(k:Nat)(l:List Lot)(y:Lot):keptL m ms k (l++[y])=keptL m ms k l++keptL m ms (k+l.countP (fun z=>decide (z.inst=m.inst))) [y]:=by
 induction l generalizing k with
 |nil=>simp[keptL]
 |cons a l ih=>
  simp only[List.cons_append,keptL,List.countP_cons]
  by_cases h:a.inst=m.inst
  ·simp only[h,if_true,decide_true]
   rw[ih]
   have e:k+1+l.countP (fun z=>decide (z.inst=m.inst))=k+(l.countP (fun z=>decide (z.inst=m.inst))+1):=by omega
   rw[e]
   by_cases hk:m.keep=true<;>simp[hk,keptL]
  ·simp only[h,if_false,decide_false,Bool.false_eq_true]
   rw[ih]
   simp[keptL]
structure Gain where
 cause:List UInt8
 lot:List UInt8
 inst:List UInt8
 acq:Int
 closed:Int
 q:List UInt8
 proceeds:List UInt8
 cost:List UInt8
 deferred:List UInt8
 replaced:List UInt8
deriving DecidableEq
structure Stp where
 cause:List UInt8
 src:List UInt8
 dst:List UInt8
 q:List UInt8
 made:List UInt8
 cost:List UInt8
deriving DecidableEq
def gainTo(m:Mp)(x:Plan)(old:List Lot)(i:Nat):List Gain:=
 (List.range i).filterMap fun k=>match old[k]? with
   |some y=>if x.p.getD k 0=0∧x.f.getD k 0=0 then none else some {cause:=m.cause,lot:=y.id,inst:=m.other,acq:=y.acq,closed:=m.day,q:=[],proceeds:=txtL (x.p.getD k 0),cost:=txtL (x.f.getD k 0),deferred:=[],replaced:=[]}
   |none=>none
def gainL(m:Mp)(x:Plan)(old:List Lot):List Gain:=if x.part=0 then[] else gainTo m x old old.length
def stp1(s:Stp):List Stp:=if s.q=[]∧s.made=[]∧s.cost=[] then[] else[s]
def stp2(m:Mp)(x:Plan)(k:Nat)(y:Lot):List Stp:=
 let gone:=if m.keep=true then[] else y.q
 if x.parts=0 then stp1 {cause:=m.cause,src:=y.id,dst:=[],q:=gone,made:=[],cost:=txtL (x.f.getD k 0)}
 else stp1 {cause:=m.cause,src:=y.id,dst:=newId m.cause (if x.n.getD k 0=0 then 1 else cntN x.n k+1),q:=gone,made:=txtL (x.n.getD k 0),cost:=txtL (x.mv k)}++
  stp1 {cause:=m.cause,src:=y.id,dst:=[],q:=[],made:=[],cost:=txtL (x.f.getD k 0)}
def stpTo(m:Mp)(x:Plan)(old:List Lot)(i:Nat):List Stp:=(List.range i).flatMap fun k=>match old[k]? with|some y=>stp2 m x k y|none=>[]
def stpL(m:Mp)(x:Plan)(old:List Lot):List Stp:=stpTo m x old old.length
structure Res where
 lots:List Lot
 gains:List Gain
 steps:List Stp
def Res.none:Res:=⟨[],[],[]⟩
def openAll:List Lot→List Lot→Option (List Lot)
 |l,[]=>some l
 |l,z::zs=>if(openL l z).2≠0 then none else openAll (openL l z).1 zs
def mapL(ls:List Lot)(m:Mp):Res×Int:=
 if allC ls≠0∨mpC m≠0 then(Res.none,1)
 else
  let old:=lotsOf ls m.inst
  let x:=planL old m
  if old=[] then(⟨ls,[],[]⟩,0)
  else if((madeL m x old).any fun z=>decide (z.id∈ls.map (·.id)))=true then(Res.none,5)
  else match openAll (keptL m x.m 0 ls) (madeL m x old) with
   |some l=>(⟨l,gainL m x old,stpL m x old⟩,0)
   |none=>(Res.none,4)
theorem Zk0(a:List UInt8):leS a a=true:=by unfold leS;simp
theorem Zil(l:List Lot)(y:Lot)(i:List UInt8):putAt (l++[y]) i=if leS y.inst i=true then l.length+1 else putAt l i:=by
 unfold putAt
 rw[List.reverse_append,List.reverse_singleton,List.singleton_append,List.takeWhile_cons]
 cases h:leS y.inst i with
 |true=>simp
 |false=>simp
theorem Zk1(l:List Lot)(i:List UInt8):putAt l i≤l.length:=by unfold putAt;omega
structure CutAt (i:List UInt8) (A B:List Lot):Prop where
 b:∀y∈B,leS y.inst i=false
 a:A=[]∨∃A' y,A=A'++[y]∧leS y.inst i=true
theorem CutAt.at_{i:List UInt8}{A B:List Lot}(h:CutAt i A B):putAt (A++B) i=A.length:=by
 unfold putAt
 have e:((A++B).reverse.takeWhile (fun y=> !leS y.inst i))=B.reverse:=by
  rw[List.reverse_append,List.takeWhile_append_of_pos (fun y hy=>by simp[h.b y (by simpa using hy)])]
  have e2:A.reverse.takeWhile (fun y=> !leS y.inst i)=[]:=by
   rcases h.a with rfl|⟨A',y,rfl,hy⟩
   ·rfl
   ·rw[List.reverse_append]
    simp[hy]
  rw[e2,List.append_nil]
 rw[e]
 simp
theorem CutAt.put{A B:List Lot}{x:Lot}(h:CutAt x.inst A B):putL (A++B) x=A++x::B:=by
 unfold putL
 rw[h.at_,List.take_left,List.drop_left]
theorem CutAt.next{A B:List Lot}{x:Lot}(h:CutAt x.inst A B):CutAt x.inst (A++[x]) B:=⟨h.b,.inr ⟨A,x,rfl,Zk0 _⟩⟩
theorem LotsOk.put{l:List Lot}{x:Lot}(h:LotsOk l)(hx:x.Ok)(hid:x.id ∉ l.map (·.id))(hl:l.length<1000){A B:List Lot}(e:l=A++B):LotsOk (A++x::B):=by
 subst e
 have hp:(A++x::B).Perm (x::(A++B)):=List.perm_middle
 refine⟨?_,?_,?_⟩
 ·rw[hp.length_eq];simp at hl ⊢; omega
 ·intro y hy
  rcases List.mem_cons.1 (hp.mem_iff.1 hy) with rfl|hy
  ·exact hx
  ·exact h.ok y hy
 ·rw[(hp.map (·.id)).nodup_iff,List.map_cons,List.nodup_cons]
  exact⟨hid,h.ids⟩
theorem Zk2{l:List Lot}{x:Lot}(h:LotsOk l)(hx:x.Ok)(hid:x.id ∉ l.map (·.id)):openL l x=if 1000≤l.length then([],4) else(putL l x,0):=by
 unfold openL
 rw[if_neg (by rw[(ZbA l).2 h];simp),if_neg (by rw[(ZgK x).2 hx];simp),if_neg hid]
theorem Zim(i:List UInt8)(zs:List Lot):∀(A B:List Lot),CutAt i A B→LotsOk (A++B)→(∀z∈zs,z.Ok∧z.inst=i∧z.id ∉ (A++B).map (·.id))→(zs.map (·.id)).Nodup→
 openAll (A++B) zs=if zs=[]∨(A++B).length+zs.length≤1000 then some (A++zs++B) else none:=by
 induction zs with
 |nil=>intro A B _ _ _ _;simp[openAll]
 |cons z zs ih=>
  intro A B hc hl hz hn
  obtain⟨hok,hi,hid⟩:=hz z (by simp)
  unfold openAll
  rw[Zk2 hl hok hid]
  by_cases hlen:1000≤(A++B).length
  ·rw[if_pos hlen,if_pos (by simp),if_neg (by simp;simp at hlen;omega)]
  ·rw[if_neg hlen,if_neg (by simp)]
   subst hi
   show openAll (putL (A++B) z) zs=_
   rw[hc.put]
   have e1:A++z::B=(A++[z])++B:=by simp
   rw[e1]
   rw[List.map_cons,List.nodup_cons] at hn
   have hl':LotsOk ((A++[z])++B):=by
    have:=hl.put hok hid (by omega) rfl
    rw[←e1]
    exact this
   rw[ih (A++[z]) B hc.next hl' (fun z' hz'=>⟨(hz z' (by simp[hz'])).1,(hz z' (by simp[hz'])).2.1,?_⟩) hn.2]
   ·have e2:((A++[z])++B).length=(A++B).length+1:=by simp;omega
    rw[e2]
    have e3:A++[z]++zs++B=A++(z::zs)++B:=by simp
    rw[e3]
    simp only[reduceCtorEq,false_or,List.length_cons]
    cases zs with
    |nil=>rw[if_pos (.inl rfl),if_pos (by simp at hlen ⊢; omega)]
    |cons z2 zs=>
     simp only[reduceCtorEq,false_or,List.length_cons]
     congr 1
     rw[eq_iff_iff]
     omega
   ·have h3:=(hz z' (by simp[hz'])).2.2
    rw[←e1]
    have hp:((A++z::B).map (·.id)).Perm (z.id::(A++B).map (·.id)):=(List.perm_middle (a:=z) (l₁:=A) (l₂:=B)).map (·.id)
    rw[hp.mem_iff]
    simp only[List.mem_cons,not_or]
    refine⟨fun e=>hn.1 ?_,h3⟩
    rw[←e]
    exact List.mem_map.2 ⟨z',hz',rfl⟩
end
section
open Go.RowKit Go.Shelf
attribute [local go_sem ↓] Go.wp_at_zero Go.wp_at_succ
def mpA(m:Mp):List Value:=[S m.cause,.int .i64 m.day,S m.inst,S m.other,S m.ratio.n,S m.ratio.d,S m.share.n,S m.share.d,S m.price.n,S m.price.d,.bool m.keep]
structure PlV where
 m:Mp
 oA:Option Addr
 on:Nat
 oc:Nat
 parts:List UInt8
 part:Fr
 n:Value
 q:Value
 f:Value
 p:Value
def plA(v:PlV):List Value:=mpA v.m++[.slice v.oA v.on v.oc,S v.parts,S v.part.n,S v.part.d,v.n,v.q,v.f,v.p]
theorem ZeZ{K:Nat}(hK:K≤5000)(hK1:1≤K)(f:Fr)(d:Int)(D:Nat)(w:World)(hp:Env w)(hf:f.Sz K)(hd:d.natAbs<10^K)(hD:w.cell? ⟨D,0,none⟩=some (.string ⟨(txtL d).toArray⟩)):
 Calls Tryz.prog 127 #[FrV f,.pointer (some ⟨D,0,none⟩)] w fun e w'=>e=.returned (S (txtL (flo (f.rat*(d:Rat)))))∧Below w.heap.size w w':=by
 have H:=hdz ((Kp.start hp).new w.heap.size rfl #[.string ⟨f.n.toArray⟩,.string ⟨f.d.toArray⟩] 26)
 have hlt:=World.block_lt_of_cell? w _ hD
 have hne:D≠w.heap.size:=by have:D<w.heap.size:=hlt;omega
 have HD:=hdz (show ∀W',Below w.heap.size w W'→W'.cell? ⟨D,0,none⟩=some (.string ⟨(txtL d).toArray⟩) from fun W' hb=>(hb.cell (p:=⟨D,0,none⟩) hlt).trans hD)
 have ld:=Zab hd
 have hg:(frOf (d:Rat)).Sz (K+1):=by rw[ZbZ];exact⟨ld,by simp⟩
 have HOF:=hdz (fun W hp=>Zdo (txtL d) W hp (by omega))
 rw[Zaa] at HOF
 have HMU:=hdz (fun W hp=>ZcY f (frOf (d:Rat)) W hp (hf.more (by omega)) (hg.more (by omega)))
 rw[Zac] at HMU
 have hm:=Zam (Zi3 (hf.more (show K≤K+1 by omega)) hg (by omega))
 rw[Zac] at hm
 have HFL:=hdz (ZfY (frOf (f.rat*(d:Rat))) (hm.more (by omega)))
 rw[Zac] at HFL
 generalize txtL (flo (f.rat*(d:Rat)))=res at*
 generalize frOf (f.rat*(d:Rat))=mu at*
 generalize frOf (d:Rat)=g at*
 generalize txtL d=td at*
 clear hp hf hd hD hK hK1 ld hg hm hlt
 unfold FrV at*
 unfold S at*
 have y0:=HD.out _ H.out.bl
 have x0:=H.out.c 0 0 rfl rfl;have x1:=H.out.c 0 1 rfl rfl
 go_enter Tryz.func127,Tryz.ntmps127
 go_upto_region 1 with (fail)
 generalize w.alloc _=W at*
 go_region_held3 (fun w'=>w'.cell? ⟨w.heap.size,0,none⟩=some (.string ⟨f.n.toArray⟩)∧w'.cell? ⟨w.heap.size,1,none⟩=some (.string ⟨f.d.toArray⟩)∧w'.cell? ⟨D,0,none⟩=some (.string ⟨td.toArray⟩))
  (first
    |exact k2
    |exact k3
    |exact k4
    |go_keep)
  (first
    |(go_at_call 60;refine(HOF.out _ H.out.drew.po).mono ?_;rintro e w2 ⟨rfl,hb2⟩;unfold FrV S;have hz:Below W.heap.size W w2:=(Below.refl _ W).drew.trans hb2;have k2:=And.intro ((H.out.here hz).c 0 0 rfl rfl) (And.intro ((H.out.here hz).c 0 1 rfl rfl) (HD.out _ (H.out.here hz).bl)))
    |(go_at_call 55;refine(HMU.out _ (H.out.here hz).po).mono ?_;rintro e w3 ⟨rfl,hb3⟩;unfold FrV S;have hz2:Below W.heap.size W w3:=hz.trans (hb3.mono hz.size);have k3:=And.intro ((H.out.here hz2).c 0 0 rfl rfl) (And.intro ((H.out.here hz2).c 0 1 rfl rfl) (HD.out _ (H.out.here hz2).bl)))
    |(go_at_call 113;refine(HFL.out _ (H.out.here hz2).pw).mono ?_;rintro e w4 ⟨rfl,hb4⟩;have hz3:Below W.heap.size W w4:=hz2.trans (hb4.mono hz2.size);have k4:=And.intro ((H.out.here hz3).c 0 0 rfl rfl) (And.intro ((H.out.here hz3).c 0 1 rfl rfl) (HD.out _ (H.out.here hz3).bl))))
 all_goals
  go_wp2_with fail
  first|go_ret|skip
  exact⟨rfl,(H.out.here hz3).bl⟩
def fracI(q:Rat)(mv:Int):Int:=if q-((flo q:Int):Rat)=0 then 0 else if flo q=0 then mv else shrL mv (flr q) q.num
theorem Zf8(q:Rat):flo ((q-((flo q:Int):Rat))*((q.den:Int):Rat))=flr q:=by
 have e:(q-((flo q:Int):Rat))*((q.den:Int):Rat)=((flr q:Int):Rat):=by
  rw[Zdq]
  have hd:(q.den:Int)≠0:=by have:=q.den_nz;omega
  rw[←Zay (q.den:Int),Rat.divInt_mul_divInt,←Zay (flr q),Rat.divInt_eq_divInt_iff (by omega) (by omega)]
  simp
 rw[e]
 unfold flo;simp
theorem ZmC(q:Rat):flo (q*((q.den:Int):Rat))=q.num:=by
 have e:q*((q.den:Int):Rat)=((q.num:Int):Rat):=by
  have hd:(q.den:Int)≠0:=by have:=q.den_nz;omega
  conv=>lhs;lhs;rw[Zco q]
  rw[←Zay (q.den:Int),Rat.divInt_mul_divInt,←Zay q.num,Rat.divInt_eq_divInt_iff (by omega) (by omega)]
  simp
 rw[e]
 unfold flo;simp
theorem Zin(v:PlV)(q:Rat)(mv:Int)(w:World){K:Nat}(hK:K≤3000)(hK1:1≤K)(hp:Env w)(hq:RB K q)(hmv:mv.natAbs<10^K)(h0:0≤q)(hv1:v.parts=txtL (flo q))(hv2:v.part=frOf (q-((flo q:Int):Rat))):
 Calls Tryz.prog 75 #[.agg (plA v).toArray,S (txtL mv),FrV (frOf q)] w fun e w'=>e=.returned (S (txtL (fracI q mv)))∧Below w.heap.size w w':=by
 obtain⟨m,oA,on,oc,parts,part,vn,vq,vf,vp⟩:=v
 simp only at hv1 hv2
 subst hv1;subst hv2
 have H:=hdz (((Kp.start hp).new w.heap.size rfl (plA ⟨m,oA,on,oc,txtL (flo q),frOf (q-((flo q:Int):Rat)),vn,vq,vf,vp⟩).toArray 60).new (w.heap.size+1) (by simp) #[.string ⟨(frOf q).n.toArray⟩,.string ⟨(frOf q).d.toArray⟩] 26)
 have hbd:=ZaJ q
 have hnum:=Zec q
 have hf0:=Zcp h0
 have hn0:0≤q.num:=Rat.num_nonneg.2 h0
 have hd0:0<(q.den:Int):=by have:=q.den_pos;omega
 have hfl1:flr q≤q.num:=by
  have:0≤(q.den:Int)*flo q:=Int.mul_nonneg (by omega) hf0
  omega
 have hq1:=hq.1;have hq2:=hq.2
 have hpt:RB K (q-((flo q:Int):Rat)):=by rw[Zdq];exact RB.divInt (by omega) (by omega) (by omega)
 have sz1:=Zam hpt;have sz2:=Zam hq
 have HSG:=hdz (Zbn (frOf (q-((flo q:Int):Rat))) (sz1.more (by omega)))
 rw[Zac] at HSG
 have hsg:(cmpR (q-((flo q:Int):Rat)) 0==0)=decide (q-((flo q:Int):Rat)=0):=by
  unfold cmpR
  rw[Bool.eq_iff_iff]
  simp only[beq_iff_eq,decide_eq_true_eq]
  constructor
  ·intro h
   split at h
   ·cases h
   ·split at h
    ·cases h
    ·rename_i h1 h2
     exact Rat.le_antisymm (Rat.not_lt.1 h2) (Rat.not_lt.1 h1)
  ·intro h
   rw[h]
   rfl
 have HFI:=hdz (show fracI q mv=if q-((flo q:Int):Rat)=0 then 0 else if flo q=0 then mv else shrL mv (flr q) q.num from rfl)
 have hpow5:10^K≤10^(K+1):=Nat.pow_le_pow_right (by omega) (by omega)
 have HPZ:=hdz (ZfX (frOf q) (sz2.more (by omega)))
 rw[Zac] at HPZ
 have HF1:=hdz (fun D W hp hD=>ZeZ (K:=K+1) (by omega) (by omega) (frOf (q-((flo q:Int):Rat))) (q.den:Int) D W hp sz1 (by omega) hD)
 have HF2:=hdz (fun D W hp hD=>ZeZ (K:=K+1) (by omega) (by omega) (frOf q) (q.den:Int) D W hp sz2 (by omega) hD)
 rw[Zac,Zf8] at HF1
 rw[Zac,ZmC] at HF2
 have HSH:=hdz (fun h2=>Zij (K:=K) (by omega) hK1 mv (flr q) q.num hmv (by omega) hq1 hbd.1 hfl1 h2)
 have hte:(txtL (flo q)==[])=decide (flo q=0):=by
  rw[Bool.eq_iff_iff]
  simp only[beq_iff_eq,decide_eq_true_eq]
  exact ZaQ
 have hnz:flo q≠0→q.num≠0:=by
  intro h1 h2
  have h3:0<(q.den:Int)*flo q:=Int.mul_pos hd0 (by omega)
  omega
 have e19:(plA ⟨m,oA,on,oc,txtL (flo q),frOf (q-((flo q:Int):Rat)),vn,vq,vf,vp⟩).toArray=#[.string ⟨m.cause.toArray⟩,.int .i64 m.day,.string ⟨m.inst.toArray⟩,.string ⟨m.other.toArray⟩,.string ⟨m.ratio.n.toArray⟩,.string ⟨m.ratio.d.toArray⟩,.string ⟨m.share.n.toArray⟩,.string ⟨m.share.d.toArray⟩,.string ⟨m.price.n.toArray⟩,.string ⟨m.price.d.toArray⟩,.bool m.keep,.slice oA on oc,.string ⟨(txtL (flo q)).toArray⟩,.string ⟨(frOf (q-((flo q:Int):Rat))).n.toArray⟩,.string ⟨(frOf (q-((flo q:Int):Rat))).d.toArray⟩,vn,vq,vf,vp]:=rfl
 rw[e19] at H ⊢
 clear e19 hp hq hmv h0 hbd hnum hf0 hn0 hd0 hfl1 hq1 hq2 hpt sz1 sz2 hpow5 hK hK1
 by_cases hz:q-((flo q:Int):Rat)=0
 ·rw[if_pos hz] at HFI
  have hs:(cmpR (q-((flo q:Int):Rat)) 0==0)=true:=by rw[hsg];simpa using hz
  clear hsg hz hte hnz HPZ HF1 HF2 HSH
  generalize frOf (q-((flo q:Int):Rat))=pt at*
  generalize cmpR (q-((flo q:Int):Rat)) 0=sg at*
  generalize txtL (flo q)=tq at*
  generalize frOf q=fq at*
  generalize txtL mv=tm at*
  generalize fracI q mv=res at*
  have HFI2:=HFI.out
  subst HFI2
  unfold FrV S at*
  have x13:=H.out.c 1 13 rfl rfl;have x14:=H.out.c 1 14 rfl rfl
  go_enter Tryz.func75,Tryz.ntmps75
  go_wp2_with fail
  generalize (w.alloc (.cells #[.string ⟨m.cause.toArray⟩,.int .i64 m.day,.string ⟨m.inst.toArray⟩,.string ⟨m.other.toArray⟩,.string ⟨m.ratio.n.toArray⟩,.string ⟨m.ratio.d.toArray⟩,.string ⟨m.share.n.toArray⟩,.string ⟨m.share.d.toArray⟩,.string ⟨m.price.n.toArray⟩,.string ⟨m.price.d.toArray⟩,.bool m.keep,.slice oA on oc,.string ⟨tq.toArray⟩,.string ⟨pt.n.toArray⟩,.string ⟨pt.d.toArray⟩,vn,vq,vf,vp] 60)).alloc (.cells #[.string ⟨fq.n.toArray⟩,.string ⟨fq.d.toArray⟩] 26)=W at*
  refine(HSG.out _ H.out.pw).mono ?_
  rintro e w1 ⟨rfl,hb⟩
  go_wp2_with fail
  first|go_ret|skip
  exact⟨rfl,(H.out.here hb).bl⟩
 ·rw[if_neg hz] at HFI
  have hs:(cmpR (q-((flo q:Int):Rat)) 0==0)=false:=by rw[hsg];simpa using hz
  clear hsg hz
  have hie:(txtL (flo q)).isEmpty=(txtL (flo q)==[]):=by cases txtL (flo q)<;>rfl
  by_cases hq0:flo q=0
  ·rw[if_pos hq0] at HFI
   have ht1:(txtL (flo q)==[])=true:=by rw[hte];simpa using hq0
   have ht2:(txtL (flo q)).isEmpty=true:=by rw[hie];exact ht1
   clear hq0 hte hie hnz HPZ HF1 HF2 HSH
   generalize frOf (q-((flo q:Int):Rat))=pt at*
   generalize cmpR (q-((flo q:Int):Rat)) 0=sg at*
   generalize txtL (flo q)=tq at*
   generalize frOf q=fq at*
   generalize fracI q mv=res at*
   have HFI2:=HFI.out
   subst HFI2
   generalize txtL res=tm at*
   unfold FrV S at*
   have x13:=H.out.c 1 13 rfl rfl;have x14:=H.out.c 1 14 rfl rfl
   go_enter Tryz.func75,Tryz.ntmps75
   go_wp2_with fail
   generalize (w.alloc (.cells #[.string ⟨m.cause.toArray⟩,.int .i64 m.day,.string ⟨m.inst.toArray⟩,.string ⟨m.other.toArray⟩,.string ⟨m.ratio.n.toArray⟩,.string ⟨m.ratio.d.toArray⟩,.string ⟨m.share.n.toArray⟩,.string ⟨m.share.d.toArray⟩,.string ⟨m.price.n.toArray⟩,.string ⟨m.price.d.toArray⟩,.bool m.keep,.slice oA on oc,.string ⟨tq.toArray⟩,.string ⟨pt.n.toArray⟩,.string ⟨pt.d.toArray⟩,vn,vq,vf,vp] 60)).alloc (.cells #[.string ⟨fq.n.toArray⟩,.string ⟨fq.d.toArray⟩] 26)=W at*
   refine(HSG.out _ H.out.pw).mono ?_
   rintro e w1 ⟨rfl,hb⟩
   replace H:=hdz (H.out.here hb)
   clear x13 x14 hb
   have x12:=H.out.c 1 12 rfl rfl
   go_wp2_with fail
   first|go_ret|skip
   exact⟨rfl,H.out.bl⟩
  ·rw[if_neg hq0] at HFI
   have ht1:(txtL (flo q)==[])=false:=by rw[hte];simpa using hq0
   have ht2:(txtL (flo q)).isEmpty=false:=by rw[hie];exact ht1
   have HS2:=hdz (HSH.out (hnz hq0))
   rw[←HFI.out] at HS2
   clear hq0 hte hie hnz HSH HFI
   generalize frOf (q-((flo q:Int):Rat))=pt at*
   generalize cmpR (q-((flo q:Int):Rat)) 0=sg at*
   generalize txtL (flo q)=tq at*
   generalize frOf q=fq at*
   generalize txtL (mv-fracI q mv)=tr at*
   generalize txtL (fracI q mv)=res at*
   generalize txtL mv=tm at*
   generalize txtL (flr q)=t1 at*
   generalize txtL q.num=t2 at*
   generalize txtL (q.den:Int)=t3 at*
   unfold FrV S at*
   have x13:=H.out.c 1 13 rfl rfl;have x14:=H.out.c 1 14 rfl rfl
   go_enter Tryz.func75,Tryz.ntmps75
   go_wp2_with fail
   generalize (w.alloc (.cells #[.string ⟨m.cause.toArray⟩,.int .i64 m.day,.string ⟨m.inst.toArray⟩,.string ⟨m.other.toArray⟩,.string ⟨m.ratio.n.toArray⟩,.string ⟨m.ratio.d.toArray⟩,.string ⟨m.share.n.toArray⟩,.string ⟨m.share.d.toArray⟩,.string ⟨m.price.n.toArray⟩,.string ⟨m.price.d.toArray⟩,.bool m.keep,.slice oA on oc,.string ⟨tq.toArray⟩,.string ⟨pt.n.toArray⟩,.string ⟨pt.d.toArray⟩,vn,vq,vf,vp] 60)).alloc (.cells #[.string ⟨fq.n.toArray⟩,.string ⟨fq.d.toArray⟩] 26)=W at*
   refine(HSG.out _ H.out.pw).mono ?_
   rintro e w1 ⟨rfl,hb⟩
   replace H:=hdz (H.out.here hb)
   clear x13 x14 hb
   have x12:=H.out.c 1 12 rfl rfl
   have y0:=H.out.c 0 0 rfl rfl;have y1:=H.out.c 0 1 rfl rfl
   go_wp2_with fail
   refine(HPZ.out _ H.out.pw).mono ?_
   rintro e w2 ⟨rfl,hb⟩
   replace H:=hdz (H.out.here hb)
   clear x12 y0 y1 hb
   go_upto_region 7 with (fail)
   replace H:=hdz (H.out.new w2.heap.size rfl #[.string ⟨t3.toArray⟩] 24)
   obtain⟨D,hD⟩:∃D,D=w2.heap.size:=⟨_,rfl⟩
   rw[←hD] at H ⊢
   generalize w2.alloc _=W2 at*
   clear hD
   have y0:=H.out.c 1 0 rfl rfl;have y1:=H.out.c 1 1 rfl rfl
   have x13:=H.out.c 2 13 rfl rfl;have x14:=H.out.c 2 14 rfl rfl
   go_region_held3 (fun w'=>w'.cell? ⟨w.heap.size+1,0,none⟩=some (.string ⟨fq.n.toArray⟩)∧w'.cell? ⟨w.heap.size+1,1,none⟩=some (.string ⟨fq.d.toArray⟩)∧w'.cell? ⟨w.heap.size,13,none⟩=some (.string ⟨pt.n.toArray⟩)∧w'.cell? ⟨w.heap.size,14,none⟩=some (.string ⟨pt.d.toArray⟩))
    (first
      |exact k2
      |exact k3
      |exact k4
      |go_keep)
    (first
      |(go_at_call_of 127 (Value.agg #[.string ⟨pt.n.toArray⟩,.string ⟨pt.d.toArray⟩]);refine(HF1.out D _ H.out.drew.pw (H.out.drew.c 0 0 rfl rfl)).mono ?_;rintro e w3 ⟨rfl,hb3⟩;have hz:Below W2.heap.size W2 w3:=(Below.refl _ W2).drew.trans hb3;have k2:=And.intro ((H.out.here hz).c 1 0 rfl rfl) (And.intro ((H.out.here hz).c 1 1 rfl rfl) (And.intro ((H.out.here hz).c 2 13 rfl rfl) ((H.out.here hz).c 2 14 rfl rfl))))
      |(go_at_call_of 127 (Value.agg #[.string ⟨fq.n.toArray⟩,.string ⟨fq.d.toArray⟩]);refine(HF2.out D _ (H.out.here hz).pw ((H.out.here hz).c 0 0 rfl rfl)).mono ?_;rintro e w4 ⟨rfl,hb4⟩;have hz2:Below W2.heap.size W2 w4:=hz.trans (hb4.mono hz.size);have k3:=And.intro ((H.out.here hz2).c 1 0 rfl rfl) (And.intro ((H.out.here hz2).c 1 1 rfl rfl) (And.intro ((H.out.here hz2).c 2 13 rfl rfl) ((H.out.here hz2).c 2 14 rfl rfl))))
      |(go_at_call 128;refine(HS2.out _ (H.out.here hz2).pw).mono ?_;rintro e w5 ⟨rfl,hb5⟩;have hz3:Below W2.heap.size W2 w5:=hz2.trans (hb5.mono hz2.size);have k4:=And.intro ((H.out.here hz3).c 1 0 rfl rfl) (And.intro ((H.out.here hz3).c 1 1 rfl rfl) (And.intro ((H.out.here hz3).c 2 13 rfl rfl) ((H.out.here hz3).c 2 14 rfl rfl)))))
   all_goals
    go_wp2_with fail
    first|go_ret|skip
    exact⟨rfl,(H.out.here hz3).bl⟩
end
section
open Go.RowKit Go.Shelf
theorem ZhH(n:Int)(h0: -9223372036854775808≤n)(h1:n≤9223372036854775807)(w:World)(hp:Pow w):
 Calls Tryz.prog 172 #[.int .i64 n] w fun e w'=>e=.returned (S (Lib.itoa n))∧Below w.heap.size w w':=by
 refine(Tryz.strconv_Itoa n h0 h1 w hp).mono ?_
 rintro e w' ⟨rfl,k,os,rfl⟩
 exact⟨rfl,Lib.below_grow _ w (Nat.le_refl _) k os⟩
theorem Zk3(n:Int)(h0: -9223372036854775808≤n)(h1:n≤9223372036854775807):(Lib.itoa n).length≤20:=by
 unfold Lib.itoa
 split
 ·rw[List.length_cons]
  have:=ZbR n.natAbs (by omega)
  omega
 ·have:=ZbR n.toNat (by omega)
  omega
theorem Znp(n:Int)(h0: -9223372036854775808≤n)(h1:n≤9223372036854775807)(w:World)(hp:Pow w):
 Calls Tryz.prog 130 #[.int .i64 n] w fun e w'=>e=.returned (S (ofL n))∧Below w.heap.size w w':=by
 have H1:=hdz (ZhH n h0 h1 w hp)
 have hl:=Zk3 n h0 h1
 have H2:=hdz (fun W=>ZbW (Lib.itoa n) W (by omega))
 have HO:=hdz (show ofL n=canonL (Lib.itoa n) from rfl)
 clear hl h0 h1 hp
 generalize Lib.itoa n=s at*
 unfold S at*
 go_enter Tryz.func130,Tryz.ntmps130
 go_wp2_with (first
  |(go_at_call 172;refine H1.out.mono ?_;rintro e w1 ⟨rfl,hb1⟩)
  |(go_at_call 110;refine(H2.out _).mono ?_;rintro e w2 ⟨rfl,hb2⟩))
 go_ret
 rw[HO.out]
 exact⟨rfl,hb1.trans (hb2.mono hb1.size)⟩
end
section
open Go.RowKit Go.Shelf
def L7(l:Lot):List Value:=[S l.id,S l.inst,.int .i64 l.acq,.int .i64 l.opn,S l.q,S l.c,S l.u]
def LotV(l:Lot):Value:=.agg #[S l.id,S l.inst,.int .i64 l.acq,.int .i64 l.opn,S l.q,S l.c,S l.u]
theorem Zah(l:Lot):(L7 l).length=7:=rfl
theorem ZbC(l:Lot):∀u∈L7 l,u.oneCell'=true:=by
 intro u hu
 simp only[L7,List.mem_cons,List.mem_nil_iff,or_false] at hu
 rcases hu with rfl|rfl|rfl|rfl|rfl|rfl|rfl<;>rfl
abbrev Lots(w:World)(B:Nat)(A:Option Addr)(n:Nat)(xs:List Lot):Prop:=Sl L7 7 w B A n xs
structure Lot.Sz (L:Nat) (l:Lot):Prop where
 id:l.id.length≤L
 inst:l.inst.length≤L
 q:l.q.length≤L
 c:l.c.length≤L
 u:l.u.length≤L
 a1: -9223372036854775808≤l.acq
 a2:l.acq≤9223372036854775807
 o1: -9223372036854775808≤l.opn
 o2:l.opn≤9223372036854775807
end
section
open Go.RowKit Go.Shelf
attribute [local go_sem ↓] Go.wp_at_zero Go.wp_at_succ
structure PlM (W:World) (B:Nat) (v:PlV) (x:Plan) (old:List Lot) (pn pm pf pp:Nat):Prop where
 len:v.on=old.length
 lots:Lots W B v.oA v.on old
 parts:v.parts=txtL x.parts
 part:v.part=frOf x.part
 en:v.n=.slice (some ⟨pn,0,none⟩) v.on v.on
 em:v.q=.slice (some ⟨pm,0,none⟩) v.on v.on
 ef:v.f=.slice (some ⟨pf,0,none⟩) v.on v.on
 ep:v.p=.slice (some ⟨pp,0,none⟩) v.on v.on
 bn:BlkB W pn (partA x.n v.on v.on) 24
 bm:BlkB W pm (partA x.m v.on v.on) 24
 bf:BlkB W pf (partA x.f v.on v.on) 24
 bp:BlkB W pp (partA x.p v.on v.on) 24
 ln:pn<B
 lm:pm<B
 lf:pf<B
 lp:pp<B
section
variable {W W':World} {B:Nat} {v:PlV} {x:Plan} {old:List Lot} {pn pm pf pp:Nat}
theorem PlM.kept(h:PlM W B v x old pn pm pf pp)(_hB:B≤W.heap.size)(hb:∀b,b<B→W'.heap[b]?=W.heap[b]?):PlM W' B v x old pn pm pf pp:=
 {h with lots:=h.lots.keep fun p hp=>World.cell?_of_block (hb p.block hp),bn:=(hb _ h.ln).trans h.bn,bm:=(hb _ h.lm).trans h.bm,bf:=(hb _ h.lf).trans h.bf,bp:=(hb _ h.lp).trans h.bp}
theorem PlM.below(h:PlM W B v x old pn pm pf pp)(hb:Below B W W'):PlM W' B v x old pn pm pf pp:=
 {h with lots:=h.lots.below hb,bn:=(hb.block _ h.ln).trans h.bn,bm:=(hb.block _ h.lm).trans h.bm,bf:=(hb.block _ h.lf).trans h.bf,bp:=(hb.block _ h.lp).trans h.bp}
theorem PlM.more{B':Nat}(h:PlM W B v x old pn pm pf pp)(hB:B≤B'):PlM W B' v x old pn pm pf pp:=
 {h with lots:=h.lots.more hB,ln:=Nat.lt_of_lt_of_le h.ln hB,lm:=Nat.lt_of_lt_of_le h.lm hB,lf:=Nat.lt_of_lt_of_le h.lf hB,lp:=Nat.lt_of_lt_of_le h.lp hB}
end
structure PlSz (K:Nat) (x:Plan):Prop where
 n:∀i,(txtL (x.n.getD i 0)).length≤K
 m:∀i,(txtL (x.m.getD i 0)).length≤K
 f:∀i,(txtL (x.f.getD i 0)).length≤K
 p:∀i,(txtL (x.p.getD i 0)).length≤K
def plB(v:PlV):Array Value:=#[.string ⟨v.m.cause.toArray⟩,.int .i64 v.m.day,.string ⟨v.m.inst.toArray⟩,.string ⟨v.m.other.toArray⟩,.string ⟨v.m.ratio.n.toArray⟩,.string ⟨v.m.ratio.d.toArray⟩,.string ⟨v.m.share.n.toArray⟩,.string ⟨v.m.share.d.toArray⟩,.string ⟨v.m.price.n.toArray⟩,.string ⟨v.m.price.d.toArray⟩,.bool v.m.keep,.slice v.oA v.on v.oc,.string ⟨v.parts.toArray⟩,.string ⟨v.part.n.toArray⟩,.string ⟨v.part.d.toArray⟩,v.n,v.q,v.f,v.p]
theorem Zbt(v:PlV):(plA v).toArray=plB v:=rfl
def ld84(v:Value):Sem Value:=Instr.loadAt 60 v
theorem Zce(v:Value):Instr.loadAt 60 v=ld84 v:=rfl
theorem ZaX{w:World}{g:Nat}{pb:Array Value}(hg:BlkB w g pb 60)(hs:pb.size=19):(ld84 (.pointer (some ⟨g,0,none⟩))).run Tryz.prog w=.ok (.agg pb) w:=by
 have e:=run_loadVar_row (P:=Tryz.prog) w g 60 60 pb (0,0) _ hg Tryz.underlying60 rfl (by rw[hs];kernel_rfl)
 unfold ld84
 simp only[Instr.loadAt,Instr.sureAddr,Sem.run_bind,Sem.run_pure,Result.andThen_ok,e]
theorem Ze0(v:PlV)(x:Plan)(old:List Lot)(pn pm pf pp i:Nat)(w:World)(hp:Env w)(h:PlM w w.heap.size v x old pn pm pf pp)(hz:PlSz 50000 x)(hi:i<old.length)(_hn:old.length≤1000000):
 Calls Tryz.prog 78 #[.agg (plA v).toArray,.int .i64 i] w fun e w'=>e=.returned (S (txtL (x.mv i)))∧Below w.heap.size w w':=by
 have HSU:=hdz (fun W hp=>ZcI (txtL (x.m.getD i 0)) (txtL (x.f.getD i 0)) W hp (by have:=hz.m i;omega) (by have:=hz.f i;omega))
 rw[Zaa,Zaa,show x.m.getD i 0-x.f.getD i 0=x.mv i from rfl] at HSU
 have H:=hdz ((Kp.start hp).new w.heap.size rfl (plB v) 60)
 have hlen:=h.len
 have PM:=hdz (show ∀W,Below w.heap.size w W→W.cell? ⟨pm,i,none⟩=some (.string ⟨(txtL (x.m.getD i 0)).toArray⟩)∧W.cell? ⟨pf,i,none⟩=some (.string ⟨(txtL (x.f.getD i 0)).toArray⟩) from fun W hb=>
  ⟨(h.below hb).bm.cell i (by rw[Zaq _ _ _ _ (by omega),if_pos (by omega)]),(h.below hb).bf.cell i (by rw[Zaq _ _ _ _ (by omega),if_pos (by omega)])⟩)
 have e16:(plB v)[16]?=some (.slice (some ⟨pm,0,none⟩) v.on v.on):=by rw[←h.em];rfl
 have e17:(plB v)[17]?=some (.slice (some ⟨pf,0,none⟩) v.on v.on):=by rw[←h.ef];rfl
 have HX:=hdz (show ∀W,Kp w [(w.heap.size,plB v,60)] W→W.cell? ⟨w.heap.size,16,none⟩=some (.slice (some ⟨pm,0,none⟩) v.on v.on)∧W.cell? ⟨w.heap.size,17,none⟩=some (.slice (some ⟨pf,0,none⟩) v.on v.on)∧W.cell? ⟨pm,i,none⟩=some (.string ⟨(txtL (x.m.getD i 0)).toArray⟩)∧W.cell? ⟨pf,i,none⟩=some (.string ⟨(txtL (x.f.getD i 0)).toArray⟩) from
  fun W hW=>⟨hW.c 0 16 rfl e16,hW.c 0 17 rfl e17,(PM.out W hW.bl).1,(PM.out W hW.bl).2⟩)
 rw[Zbt]
 generalize plB v=pb at*
 obtain⟨n,hn'⟩:∃n,n=v.on:=⟨_,rfl⟩
 rw[←hn'] at HX hlen
 have i1:(0:Int)≤(i:Int):=by omega
 have i2:(i:Int)<(n:Int):=by omega
 generalize txtL (x.mv i)=res at*
 generalize txtL (x.m.getD i 0)=tm at*
 generalize txtL (x.f.getD i 0)=tf at*
 clear hp h hz hi _hn PM e16 e17 hn' hlen
 unfold S at*
 obtain⟨y0,y1,y2,y3⟩:=HX.out _ H.out
 go_enter Tryz.func78,Tryz.ntmps78
 go_upto_region 1 with (fail)
 generalize w.alloc (.cells pb 60)=W at*
 go_region_held3 (fun w'=>w'.cell? ⟨w.heap.size,16,none⟩=some (.slice (some ⟨pm,0,none⟩) n n)∧w'.cell? ⟨w.heap.size,17,none⟩=some (.slice (some ⟨pf,0,none⟩) n n)∧w'.cell? ⟨pm,i,none⟩=some (.string ⟨tm.toArray⟩)∧w'.cell? ⟨pf,i,none⟩=some (.string ⟨tf.toArray⟩))
  (first
    |exact k2
    |go_keep)
  (first
    |(go_at_call 67;refine(HSU.out _ H.out.drew.po).mono ?_;rintro e w2 ⟨rfl,hb2⟩;unfold S;have hz:Below W.heap.size W w2:=(Below.refl _ W).drew.trans hb2;have k2:=HX.out _ (H.out.here hz)))
 all_goals
  go_wp2_with fail
  first|go_ret|skip
  exact⟨rfl,(H.out.here hz).bl⟩
theorem Zjs(k:Nat)(hk:1≤k):prtL (txtL (k:Int))=digs k:=by rw[Zft,if_neg (by omega)]
theorem Zjt(v:PlV)(k:Nat)(w:World)(hp:Env w)(hk:1≤k)(hk2:k≤1000000)(hc:v.m.cause.length≤50000):
 Calls Tryz.prog 79 #[.agg (plA v).toArray,.int .i64 k] w fun e w'=>e=.returned (S (newId v.m.cause k))∧Below w.heap.size w w':=by
 have H:=hdz ((Kp.start hp).new w.heap.size rfl (plB v) 60)
 have HOF:=hdz (fun W hp=>Znp (k:Int) (by omega) (by omega) W hp)
 rw[Zmi k,←Za2 k] at HOF
 have hl:(txtL (k:Int)).length≤8:=Zab (n:=(k:Int)) (L:=7) (by simp;omega)
 have HPR:=hdz (Zf3 (txtL (k:Int)) (by omega))
 rw[Zjs k hk] at HPR
 have HDL:=hdz (show(digs k).length≤8 by rw[←Za2 k];exact hl)
 have HID:=hdz (show newId v.m.cause k=v.m.cause++47::digs k from rfl)
 have HX:=hdz (show ∀W,Kp w [(w.heap.size,plB v,60)] W→W.cell? ⟨w.heap.size,0,none⟩=some (.string ⟨v.m.cause.toArray⟩) from fun W hW=>hW.c 0 0 rfl rfl)
 rw[Zbt]
 generalize plB v=pb at*
 generalize newId v.m.cause k=res at*
 generalize v.m.cause=cs at*
 generalize txtL (k:Int)=tk at*
 generalize digs k=dk at*
 have hdl:dk.length≤8:=by have:=HDL.out;omega
 have hs1:∀w,(Op.stringOp .add ⟨cs.toArray⟩ ⟨#[47]⟩).run Tryz.prog w=.ok (.string ⟨(cs++[47]).toArray⟩) w:=fun w=>run_string_add_lists w cs [47] (by omega) (by simp)
 have hs2:∀w,(Op.stringOp .add ⟨(cs++[47]).toArray⟩ ⟨dk.toArray⟩).run Tryz.prog w=.ok (.string ⟨((cs++[47])++dk).toArray⟩) w:=fun w=>run_string_add_lists w (cs++[47]) dk (by simp;omega) (by omega)
 have HR:=hdz (show(cs++[47])++dk=res by rw[HID.out];simp)
 clear hp hk hk2 hl hc hdl HID HDL
 rw[HR.out] at hs2
 generalize cs++[47]=cs2 at*
 unfold S at*
 have y0:=HX.out _ H.out
 go_enter Tryz.func79,Tryz.ntmps79
 go_upto_region 1 with (fail)
 generalize w.alloc (.cells pb 60)=W at*
 go_region_held3 (fun w'=>w'.cell? ⟨w.heap.size,0,none⟩=some (.string ⟨cs.toArray⟩))
  (first
    |exact k2
    |exact k3
    |go_keep)
  (first
    |(go_at_call 130;refine(HOF.out _ H.out.drew.po).mono ?_;rintro e w2 ⟨rfl,hb2⟩;(try unfold S);have hz:Below W.heap.size W w2:=(Below.refl _ W).drew.trans hb2;have k2:=HX.out _ (H.out.here hz))
    |(go_at_call 129;refine(HPR.out _ (H.out.here hz).pw).mono ?_;rintro e w3 ⟨rfl,hb3⟩;have hz2:Below W.heap.size W w3:=hz.trans (hb3.mono hz.size);have k3:=HX.out _ (H.out.here hz2)))
 all_goals
  go_wp2_with fail
  first|go_ret|skip
  exact⟨rfl,(H.out.here hz2).bl⟩
end
section
open Go.RowKit Go.Shelf
attribute [local go_sem] Oper.semAt_some
theorem Zf9{α:Type}{enc:α→List Value}{k base:Nat}{e:TypeId}{F:Fence}{nF:Nat}{P:Program}(w:World){ops:Array Oper}{rest:List Oper}{o:Oper}{a:Act}{Q:Exit→Act→World→Prop}(hgd:o.guard=none)(s x:Operand)(t:TypeId)
 (ho:o.op=.call {callee:=.builtin .append,args:=#[s,x],argTypes:=#[t,t]}) {bytes:Nat} (hT:ElemT P t e k bytes) (he:∀x,(enc x).length=k) (h1:∀x,∀u∈enc x,u.oneCell'=true)
 (v:Value) (xs:List α) (hs:a.eval s=v) (hown:Own enc k e w base v xs) (B:Nat) (A:Option Addr) (m c:Nat) (ys:List α) (hx:a.eval x=.slice A m c) (hr:Sl enc k w B A m ys)
 (hlen:xs.length+m≤100000000000) (hbase:base≤w.heap.size)
 (h:∀A' c' w',Own enc k e w' base (.slice A' (xs.length+m) c') (xs++ys)→w.grownBy w' v.ownBlock→(A'.map Addr.block=v.ownBlock∨A'.map Addr.block=some w.heap.size)→wpListIn F nF P ops Q rest (a.put o.dst (.slice A' (xs.length+m) c')) w'):wpListIn F nF P ops Q (o::rest) a w:=by
 refine wpListIn_plain hgd fun K hK=> ?_
 obtain⟨A',c',w',hrun,h2,h3,h4⟩:=ZiU (P:=P) w t o.type hT he h1 v xs hown B A m c ys hr hlen hbase
 unfold Oper.wpIn
 refine⟨by simp[Oper.about,ho,resolve,Target.leads,Sem.run_pure],?_⟩
 rw[Oper.semAt_plain F _ _ (by rw[ho];intro c hc';cases hc')]
 simp[execOp,ho,resolve,invoke,builtin,hs,hx,hrun,Result.andThen]
 exact hK _ _ (h A' c' w' h2 h3 h4)
section
variable {w w' W W' X:World} {bs:List (Nat×Array Value×TypeId)} {row:Option Nat} {B:Nat}
def NoCells(B:Nat)(W:World)(row:Option Nat):Prop:=∀r,row=some r→B≤r∧∃o:Obj,W.heap[r]?=some o∧o.isCells=false
theorem Kp.turned(h:Kp w bs W)(hg:W.grownBy W' row)(hr:NoCells B W row)(hB:w.heap.size≤B):Kp w bs W':=by
 refine⟨h.pow,h.bl.trans ⟨hg.os,hg.tape,hg.output,hg.size,fun k hk=>hg.block k (by have:=h.bl.size;omega) (fun e=> ?_)⟩,h.own,h.ord,fun b hb=> ?_⟩
 ·have:=(hr k e.symm).1
  omega
 ·have hb':=h.blk b hb
  refine(hg.block b.1 hb'.lt (fun e=> ?_)).trans hb'
  obtain⟨_,o,ho,hc⟩:=hr b.1 e.symm
  unfold BlkB at hb'
  rw[hb'] at ho
  injection ho with ho
  rw[←ho] at hc
  cases hc
theorem Own.turned{α:Type}{enc:α→List Value}{k base:Nat}{e:TypeId}{v:Value}{xs:List α}(h:Own enc k e W base v xs)(hg:W.grownBy W' row)(hr:NoCells B W row):Own enc k e W' base v xs:=by
 refine World.ownsRow.kept h hg ?_
 rcases h.2 with ⟨rfl,_⟩|⟨g,cap,cur,rfl,_,hgc,_⟩
 ·exact .inl rfl
 ·right
  intro e
  obtain⟨_,o,ho,hc⟩:=hr g (by rw[←e];rfl)
  rw[hgc] at ho
  injection ho with ho
  rw[←ho] at hc
  cases hc
theorem Box.turned{b:Nat}{t:TypeId}{v:Value}(h:Box W b t v)(hg:W.grownBy W' row)(hr:NoCells B W row):Box W' b t v:=by
 refine(hg.block b h.lt (fun e=> ?_)).trans h
 obtain⟨_,o,ho,hc⟩:=hr b e.symm
 unfold Box at h
 rw[h] at ho
 injection ho with ho
 rw[←ho] at hc
 cases hc
theorem Zcr(hb:Below W.heap.size W W'):W.grownBy W' none:=⟨hb.os,hb.tape,hb.output,hb.size,fun k hk _=>hb.block k hk⟩
theorem Zc4(hb:Below W.heap.size W W')(B:Nat):KeepsFrom B W W':=(KeepsOthers.of_grownBy (Zcr hb) (fun _ _ e=>by cases e)).from B
def KeepS(S:Nat→Prop)(W W':World):Prop:=W.heap.size≤W'.heap.size∧∀b,S b→b<W.heap.size→W'.heap[b]?=W.heap[b]?
theorem KeepS.refl(S:Nat→Prop)(W:World):KeepS S W W:=⟨Nat.le_refl _,fun _ _ _=>rfl⟩
theorem KeepS.trans{S:Nat→Prop}(h:KeepS S W W')(k:KeepS S W' X):KeepS S W X:=⟨Nat.le_trans h.1 k.1,fun b hb hl=>(k.2 b hb (Nat.lt_of_lt_of_le hl h.1)).trans (h.2 b hb hl)⟩
theorem KeepS.below{S:Nat→Prop}(hb:Below W.heap.size W W'):KeepS S W W':=⟨hb.size,fun b _ hl=>hb.block b hl⟩
theorem KeepS.set{S:Nat→Prop}{p:Addr}(hp:¬S p.block)(v:Value):KeepS S W (W.setCell p v):=⟨by simp,fun b hb _=>Below.heap_setCell W p v b (fun e=>hp (e▸hb))⟩
theorem KeepS.put{S:Nat→Prop}{l:Nat}(hl:¬S l)(o:Obj):KeepS S W (W.putObj l o):=⟨by simp,fun b hb _=>World.putObj_heap_other (fun e=>hl (e▸hb))⟩
theorem KeepS.grown{S:Nat→Prop}(hg:W.grownBy W' row)(hr:∀r,row=some r→¬S r):KeepS S W W':=⟨hg.size,fun b hb hl=>hg.block b hl (fun e=>hr b e.symm hb)⟩
theorem KeepS.sl{α:Type}{enc:α→List Value}{k n:Nat}{A:Option Addr}{xs:List α}{S:Nat→Prop}{N:Nat}(h:KeepS S W W')(hs:Sl enc k W N A n xs)(hN:∀b,b<N→S b∧b<W.heap.size):Sl enc k W' N A n xs:=
 hs.keep fun p hp=>World.cell?_of_block (h.2 p.block (hN _ hp).1 (hN _ hp).2)
theorem KeepS.box{b:Nat}{t:TypeId}{v:Value}{S:Nat→Prop}(h:KeepS S W W')(hs:Box W b t v)(hb:S b):Box W' b t v:=(h.2 b hb hs.lt).trans hs
theorem KeepS.blk{b:Nat}{t:TypeId}{cs:Array Value}{S:Nat→Prop}(h:KeepS S W W')(hs:BlkB W b cs t)(hb:S b):BlkB W' b cs t:=(h.2 b hb hs.lt).trans hs
end
end
section
open Go.RowKit Go.Shelf
attribute [local go_sem] Oper.semAt_some
theorem Zju(A:Option Addr)(n c:Nat)(i:List UInt8)(w:World):
 Calls Tryz.prog 119 #[.slice A n c,S i] w fun e w'=>e=.returned (.func (.func 157) #[] #[.pointer (some ⟨w.heap.size,0,none⟩),.pointer (some ⟨w.heap.size+1,0,none⟩)])∧w'=(w.alloc (.cells #[.slice A n c] 22)).alloc (.cells #[.string ⟨i.toArray⟩] 9):=by
 unfold S
 go_enter Tryz.func119,Tryz.ntmps119
 go_wp2
 go_ret
 exact⟨rfl,rfl⟩
theorem Sl.lot7{w:World}{B:Nat}{A:Option Addr}{n:Nat}{xs:List Lot}{i:Nat}(h:Lots w B A n xs)(hi:i<n):
 ∃b off x,A=some ⟨b,off,none⟩∧b<B∧xs[i]?=some x∧w.cell? ⟨b,off+i*7,none⟩=some (.string ⟨x.id.toArray⟩)∧w.cell? ⟨b,off+i*7+1,none⟩=some (.string ⟨x.inst.toArray⟩)∧w.cell? ⟨b,off+i*7+2,none⟩=some (.int .i64 x.acq)∧
  w.cell? ⟨b,off+i*7+3,none⟩=some (.int .i64 x.opn)∧w.cell? ⟨b,off+i*7+4,none⟩=some (.string ⟨x.q.toArray⟩)∧w.cell? ⟨b,off+i*7+5,none⟩=some (.string ⟨x.c.toArray⟩)∧w.cell? ⟨b,off+i*7+6,none⟩=some (.string ⟨x.u.toArray⟩):=by
 obtain⟨b,off,x,hA,hb,hx,hc⟩:=h.at_ hi
 exact⟨b,off,x,hA,hb,hx,hc 0 _ rfl,hc 1 _ rfl,hc 2 _ rfl,hc 3 _ rfl,hc 4 _ rfl,hc 5 _ rfl,hc 6 _ rfl⟩
def lotA(x:Lot):Array Value:=#[.string ⟨x.id.toArray⟩,.string ⟨x.inst.toArray⟩,.int .i64 x.acq,.int .i64 x.opn,.string ⟨x.q.toArray⟩,.string ⟨x.c.toArray⟩,.string ⟨x.u.toArray⟩]
theorem ZgU{xs:List Lot}{i:List UInt8}{k:Nat}{x:Lot}(h:xs[k]?=some x):lotsOf (xs.take (k+1)) i=lotsOf (xs.take k) i++if(x.inst==i)=true then[x] else[]:=by
 obtain⟨hk,rfl⟩:=List.getElem?_eq_some_iff.1 h
 rw[List.take_succ_eq_append_getElem hk]
 unfold lotsOf
 rw[List.filter_append]
 congr 1
 by_cases e:(xs[k].inst==i)=true
 ·rw[if_pos e];simp[List.filter,e]
 ·rw[if_neg e];simp only[Bool.not_eq_true] at e;simp[List.filter,e]
theorem Zio(xs:List Lot)(i:List UInt8)(k:Nat):lotsOf (xs.take k) i <+: lotsOf xs i:=by
 refine⟨lotsOf (xs.drop k) i,?_⟩
 unfold lotsOf
 rw[←List.filter_append,List.take_append_drop]
theorem Zga(F:Fence)(n:Nat)(hF:F.fn 157)(hro:F.round=none)(hn:1≤n)(St:Nat→Prop)(Bs Bi n₀:Nat)(A:Option Addr)(len cap:Nat)(xs:List Lot)(i:List UInt8)(w:World)
 (hBs:Box w Bs 22 (.slice A len cap)) (hBi:Box w Bi 9 (.string ⟨i.toArray⟩)) (hn₀:n₀≤w.heap.size) (hs:Lots w n₀ A len xs) (hl:len≤1000000) (hS:∀b,b<n₀→St b) (hSi:St Bi):
 SeqStopsK F n Tryz.prog 157 #[.pointer (some ⟨Bs,0,none⟩),.pointer (some ⟨Bi,0,none⟩)] (fun z:{z:Lot//z∈lotsOf xs i}=>#[LotV z.1]) (KeepS St) (fun ys=>ys.map (·.1)=lotsOf xs i) (fun pre=>pre.map (·.1) <+: lotsOf xs i) (lotsOf xs i).length w:=fun l J Jx W hW hJ hJx hY h0=>by
 have bs:=hBs.here hW
 have HBI:=hdz (hBi.here hW)
 have HS:=hdz (hs.below (hW.mono hn₀))
 have hsz:=hW.size
 have cs:=bs.cell
 have HJ:=hdz hJ;have HY:=hdz hY;have H0:=hdz h0;have HST:=hdz hS
 have HSI:=hdz hSi
 have HN0:=hdz (show n₀≤W.heap.size by omega)
 have HLE:=hdz hs.1
 clear hBs hBi hs hW hJ hJx hY h0 hn₀ hS hSi hsz bs
 refine callsIn_of_wp Tryz.func157 rfl hF ?_ hro
 simp only[Tryz.ntmps157,List.size_toArray,List.length_cons,List.length_nil,Nat.reduceAdd,Nat.reduceSub,Array.replicate_succ,Array.replicate_zero,List.push_toArray,List.append_toArray,List.nil_append,List.cons_append]
 gi_wp2
 gi_loopw [8] (fun j wr=>∃(k:Nat) (pre:List {z:Lot//z∈lotsOf xs i}),k≤len∧j=.int .i64 k∧Hid (pre.map (·.1)=lotsOf (xs.take k) i)∧Hid (J pre wr)∧Hid (Lots wr n₀ A len xs)∧Hid (Box wr Bi 9 (.string ⟨i.toArray⟩))∧Hid (W.heap.size≤wr.heap.size)) (fun j _=>len-(intOf j).toNat)
 case atStart=>exact⟨0,[],Nat.zero_le _,rfl,(show _=_ by simp[lotsOf]),H0,HS,HBI,Nat.le_refl _⟩
 case round=>
  clear HS HBI H0
  obtain⟨k,pre,hk,rfl,HP,HJS,HS,HBI,HSZ⟩:=hrel
  by_cases hlt:k<len
  ·obtain⟨b,off,x,rfl,hb,hx,d0,d1,d2,d3,d4,d5,d6⟩:=HS.out.lot7 hlt
   have HX:=hdz hx
   have HT:=hdz (ZgU (i:=i) hx)
   have HPR:=hdz (Zio xs i (k+1))
   clear hx
   have HG:=hdz (World.grownBy_alloc wr (.cells #[.string ⟨x.id.toArray⟩,.string ⟨x.inst.toArray⟩,.int .i64 x.acq,.int .i64 x.opn,.string ⟨x.q.toArray⟩,.string ⟨x.c.toArray⟩,.string ⟨x.u.toArray⟩] 54) none)
   have HJ1:=hdz (HJ.out pre wr _ none HJS.out HG.out (fun r e=>by cases e))
   have bi:=HBI.out.cell
   have hbl:Bi<wr.heap.size:=HBI.out.lt
   have hbn:Bi≠wr.heap.size:=by omega
   have HBA:=hdz (HBI.out.alloc (.cells #[.string ⟨x.id.toArray⟩,.string ⟨x.inst.toArray⟩,.int .i64 x.acq,.int .i64 x.opn,.string ⟨x.q.toArray⟩,.string ⟨x.c.toArray⟩,.string ⟨x.u.toArray⟩] 54))
   have HSA:=hdz (HS.out.alloc (by have:=HSZ.out;have:=HN0.out;omega) (.cells #[.string ⟨x.id.toArray⟩,.string ⟨x.inst.toArray⟩,.int .i64 x.acq,.int .i64 x.opn,.string ⟨x.q.toArray⟩,.string ⟨x.c.toArray⟩,.string ⟨x.u.toArray⟩] 54))
   by_cases hq:(x.inst==i)=true
   ·have hmem:x∈lotsOf xs i:=List.mem_filter.2 ⟨List.mem_of_getElem? HX.out,hq⟩
    have HT2:=hdz (show lotsOf (xs.take (k+1)) i=lotsOf (xs.take k) i++[x] by rw[HT.out,if_pos hq])
    obtain⟨fn,tmps,assign,body,hy,hR⟩:=HY.out pre ⟨x,hmem⟩ _ HJ1.out (by
     have h1:=HPR.out.length_le
     rw[HT2.out,←HP.out] at h1
     simp at h1
     omega)
    dsimp only[LotV,S] at hy
    have HR:=hdz hR
    have HM:=hdz hmem
    clear hR
    gi_wp2
    refine HR.out.mono ?_
    rintro e W3 (⟨rfl,hJ3,hk3⟩|⟨rfl,hJx3⟩)
    ·have HJ3:=hdz hJ3;have HK3:=hdz hk3
     clear hJ3 hk3
     gi_wp2
     go_roundw
     case rel=>
      exact⟨k+1,pre++[⟨x,hmem⟩],by omega,by go_num,(show _=_ by rw[HT2.out,List.map_append,HP.out];rfl),HJ3,HK3.out.sl HSA.out (fun b hb=>⟨HST.out b hb,by have:=HSZ.out;have:=HN0.out;simp;omega⟩),HK3.out.box HBA.out HSI.out,(by have:=HK3.out.1;have:=HSZ.out;simp at *; show _≤_;omega)⟩
     case measure=>simp[intOf];omega
    ·have HJ3:=hdz hJx3
     clear hJx3
     gi_wp2
     refine bodyPost_ret (results_none rfl _ _ _) rfl ?_
     exact⟨⟨_,rfl⟩,.inr ⟨pre++[⟨x,hmem⟩],by rw[List.map_append,HP.out];show _++[x] <+: _;rw[←HT2.out];exact HPR.out,HJ3.out⟩⟩
   ·have hq':(x.inst==i)=false:=by simpa using hq
    have HT2:=hdz (show lotsOf (xs.take (k+1)) i=lotsOf (xs.take k) i by rw[HT.out,if_neg hq,List.append_nil])
    clear hq
    gi_wp2
    refine⟨fun _ h=>(by cases h),?_⟩
    gi_wp2
    go_roundw
    case rel=>exact⟨k+1,pre,by omega,by go_num,(show _=_ by rw[HT2.out];exact HP.out),HJ1,HSA,HBA,(by have:=HSZ.out;show _≤_;simp;omega)⟩
    case measure=>simp[intOf];omega
  ·obtain rfl:k=len:=by omega
   gi_wp2
   go_end0
   exact⟨⟨_,rfl⟩,.inl ⟨pre,by rw[HP.out,List.take_of_length_le (by rw[HLE.out];exact Nat.le_refl _)],HJS.out⟩⟩
end
section
open Go.RowKit Go.Shelf
theorem Zeo{l:List Int}{i:Nat}{a:Int}(h:l[i]?=some a):l.getD i 0=a:=by rw[List.getD_eq_getElem?_getD,h];rfl
theorem Zjv(n:List Int)(i:Nat)(hi:i<n.length):cntN n (i+1)=cntN n i+if n.getD i 0=0 then 0 else 1:=by
 unfold cntN
 rw[List.take_succ_eq_append_getElem hi,List.countP_append,Zeo (List.getElem?_eq_getElem hi)]
 by_cases h:n[i]=0<;>simp[h]
theorem Zjw(n:List Int)(i:Nat):cntN n i≤i:=by
 unfold cntN
 exact Nat.le_trans List.countP_le_length (by rw[List.length_take];omega)
theorem Za1(old:List Lot)(m:Mp):(planL old m).n.length=old.length∧(planL old m).m.length=old.length∧(planL old m).f.length=old.length∧(planL old m).p.length=old.length:=by
 unfold planL
 simp[Zem]
theorem Zcs{old:List Lot}{m:Mp}(h:∀y∈old,y.Ok)(hm:m.Ok)(ho:old≠[]):
 (planL old m).n.sum=(planL old m).parts∧(planL old m).m.sum=(planL old m).moved∧(planL old m).f.sum=(planL old m).taken∧(planL old m).p.sum=(planL old m).cash∧0<(old.map fun y=>val y.q).sum:=by
 obtain⟨hq,hc⟩:=ZbK h
 have hok:=Zc2 h hm
 have hqs:0<(old.map fun y=>val y.q).sum:=by
  cases old with
  |nil=>exact absurd rfl ho
  |cons a l=>
   have h1:=(h a (by simp)).q0
   have h2:=Zdp hq (x:=val a.q) (by simp)
   omega
 have hm1:=hok.moved1
 have hm0:=hok.moved0
 have hms:(planL old m).m.sum=(planL old m).moved:=ZdR hc (by show 0<_∨(planL old m).moved=0;omega)
 refine⟨ZdR hq (.inl hqs),hms,?_,ZdR hq (.inl hqs),hqs⟩
 have hmn:∀z∈(planL old m).m,0≤z:=ZaS hok.moved0 hc
 have ht0:=hok.taken0
 have ht1:=hok.taken1
 exact ZdR hmn (by show 0<(planL old m).m.sum∨(planL old m).taken=0;rw[hms];omega)
theorem Zjx(m:Mp)(ms:List Int)(k:Nat)(l:List Lot):((keptL m ms k l).map (·.id)).Sublist (l.map (·.id)):=by
 induction l generalizing k with
 |nil=>simp[keptL]
 |cons a l ih=>
  unfold keptL
  split
  ·split
   ·simp only[List.map_cons]
    exact(ih (k+1)).cons_cons _
   ·exact(ih (k+1)).cons _
  ·exact(ih k).cons_cons _
theorem ZaP{ls:List Lot}(h:LotsOk ls)(i:List UInt8):∀y∈lotsOf ls i,y.Ok:=fun y hy=>h.ok y (List.mem_filter.1 hy).1
theorem Zbe(ls:List Lot)(i:List UInt8):(lotsOf ls i).length≤ls.length:=List.length_filter_le _ _
structure MapOk (ls:List Lot) (m:Mp) (A B:List Lot):Prop where
 ok:LotsOk ls
 mp:m.Ok
 old:lotsOf ls m.inst≠[]
 free:∀z∈madeL m (planL (lotsOf ls m.inst) m) (lotsOf ls m.inst),z.id ∉ ls.map (·.id)
 cut:keptL m (planL (lotsOf ls m.inst) m).m 0 ls=A++B
 at_:CutAt m.other A B
 len:(A++madeL m (planL (lotsOf ls m.inst) m) (lotsOf ls m.inst)++B).length≤1000
end
section
open Go.RowKit Go.Shelf
theorem Zgb(l:List Int):((List.range l.length).map (fun i=>l.getD i 0)).sum=l.sum:=by
 induction l with
 |nil=>rfl
 |cons a l ih=>
  rw[List.length_cons,List.range_succ_eq_map,List.map_cons,List.sum_cons,List.map_map,List.sum_cons,←ih]
  rfl
theorem ZcE(f:Nat→Int)(i:Nat):((List.range (i+1)).map f).sum=((List.range i).map f).sum+f i:=by
 rw[List.range_succ,List.map_append,ZaE]
 simp
theorem Zgc(x:Plan)(i:Nat):x.rest (i+1)=x.rest i+if x.n.getD i 0=0 then x.mv i else 0:=by
 unfold Plan.rest
 rw[List.range_succ,List.filter_append,List.map_append,ZaE]
 by_cases h:x.n.getD i 0=0
 ·rw[if_pos h,List.filter_cons,if_pos (by simp only[h];rfl)]
  simp
 ·rw[if_neg h,List.filter_cons,if_neg (by simp only[decide_eq_true_eq];exact h)]
  simp
section
variable {ls:List Lot} {m:Mp}
end
end
end Go.Proofs.YtpnncoinlopndaaGreatDoor
