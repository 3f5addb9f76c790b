/- Pre, Ca, Wc. -/
import Derived.Test.YtmamnnaiogidaaaGreatDoorQGU26
set_option maxRecDepth 100000
set_option maxHeartbeats 8000000
namespace Go.Proofs.YtmamnnaiogidaaaGreatDoor
open Go.Lib renaming hid→jq
open Go.RowKit Go.Shelf
section
attribute [local go_sem ↓] Go.wp_at_zero Go.wp_at_succ VQ ZcU
def v0(m:Mp)(Ao:Option Addr)(N co:Nat):PlV:=⟨m,Ao,N,co,[],Fr.zero,.slice none 0 0,.slice none 0 0,.slice none 0 0,.slice none 0 0⟩
def zPl:Array Value:=#[.string ⟨#[]⟩,.int .i64 0,.string ⟨#[]⟩,.string ⟨#[]⟩,.string ⟨#[]⟩,.string ⟨#[]⟩,.string ⟨#[]⟩,.string ⟨#[]⟩,.string ⟨#[]⟩,.string ⟨#[]⟩,.bool false,.slice none 0 0,.string ⟨#[]⟩,.string ⟨#[]⟩,.string ⟨#[]⟩,.slice none 0 0,.slice none 0 0,.slice none 0 0,.slice none 0 0]
theorem ZcH{w W:World}{bs:List (Nat×Array Value×TypeId)}{p i:Nat}{m:Mp}{T:TypeId}(h:Kp w bs W)(hb:bs[i]?=some (p,(mpA m).toArray,T)):
 W.cell? ⟨p,0,none⟩=some (.string ⟨m.cause.toArray⟩)/\W.cell? ⟨p,1,none⟩=some (.int .i64 m.day)/\W.cell? ⟨p,2,none⟩=some (.string ⟨m.inst.toArray⟩)/\W.cell? ⟨p,3,none⟩=some (.string ⟨m.other.toArray⟩)/\W.cell? ⟨p,4,none⟩=some (.string ⟨m.ratio.n.toArray⟩)/\W.cell? ⟨p,5,none⟩=some (.string ⟨m.ratio.d.toArray⟩)/\
 W.cell? ⟨p,6,none⟩=some (.string ⟨m.share.n.toArray⟩)/\W.cell? ⟨p,7,none⟩=some (.string ⟨m.share.d.toArray⟩)/\W.cell? ⟨p,8,none⟩=some (.string ⟨m.price.n.toArray⟩)/\W.cell? ⟨p,9,none⟩=some (.string ⟨m.price.d.toArray⟩)/\W.cell? ⟨p,10,none⟩=some (.bool m.keep):=
 ⟨h.c i 0 hb rfl,h.c i 1 hb rfl,h.c i 2 hb rfl,h.c i 3 hb rfl,h.c i 4 hb rfl,h.c i 5 hb rfl,h.c i 6 hb rfl,h.c i 7 hb rfl,h.c i 8 hb rfl,h.c i 9 hb rfl,h.c i 10 hb rfl⟩
theorem ZnF{W:World}{g:Nat}{pb:Array Value}(hg:BlkB W g pb 117)(hs:pb.size=19)(m:Mp)(Ao:Option Addr)(N co:Nat):
 (Zm6 (.pointer (some ⟨g,0,none⟩)) (.agg #[.string ⟨m.cause.toArray⟩,.int .i64 m.day,.string ⟨m.inst.toArray⟩,.string ⟨m.other.toArray⟩,.string ⟨m.ratio.n.toArray⟩,.string ⟨m.ratio.d.toArray⟩,.string ⟨m.share.n.toArray⟩,.string ⟨m.share.d.toArray⟩,.string ⟨m.price.n.toArray⟩,.string ⟨m.price.d.toArray⟩,.bool m.keep,.slice Ao N co,.string ⟨#[]⟩,.string ⟨#[]⟩,.string ⟨#[]⟩,.slice none 0 0,.slice none 0 0,.slice none 0 0,.slice none 0 0])).run Tryz.prog W=.ok () (W.setRow g (QN (v0 m Ao N co))):=ZbF hg hs rfl (ZaT (v0 m Ao N co) rfl rfl rfl rfl)
theorem YG(m:Mp):(mpA m).toArray=#[.string ⟨m.cause.toArray⟩,.int .i64 m.day,.string ⟨m.inst.toArray⟩,.string ⟨m.other.toArray⟩,.string ⟨m.ratio.n.toArray⟩,.string ⟨m.ratio.d.toArray⟩,.string ⟨m.share.n.toArray⟩,.string ⟨m.share.d.toArray⟩,.string ⟨m.price.n.toArray⟩,.string ⟨m.price.d.toArray⟩,.bool m.keep]:=rfl
theorem Vs(v:PlV):(QN v).size=19:=rfl
theorem TwoO.drew'{base:Nat}{W1 X:World}{A1 A2:Option Addr}{n1 c1 n2 c2:Nat}{xs ys:List (List UInt8)}(h:TwoO base W1 X A1 n1 c1 xs A2 n2 c2 ys):TwoO base W1 X.drew A1 n1 c1 xs A2 n2 c2 ys:=h.drew
theorem BlkB.drew'{W:World}{p:Nat}{cs:Array Value}{T:TypeId}(h:BlkB W p cs T):BlkB W.drew p cs T:=h
theorem BlkB.new'{W:World}{p:Nat}{cs:Array Value}{T:TypeId}(h:p=W.1.size):BlkB (W.alloc (.cells cs T)) p cs T:=by rw[h];exact heap_alloc_new W _
theorem Zoy{W:World}{p:Nat}{a b c d e f g:Value}{T:TypeId}(h:BlkB W p #[a,b,c,d,e,f,g] T):W.cell? ⟨p,4,none⟩=some e/\W.cell? ⟨p,5,none⟩=some f:=⟨h.cell 4 rfl,h.cell 5 rfl⟩
theorem BlkB.gr{X Y:World}{p:Nat}{cs:Array Value}{T:TypeId}{own:Option Nat}(hg:X.grownBy Y own)(hne:some p≠own)(h:BlkB X p cs T):BlkB Y p cs T:=(hg.block p h.lt hne).trans h
theorem Zaw(A:Option Addr)(n c:Nat)(ls:List Lot)(m:Mp)(w:World)(L:Nat)(hp:Env w)(hs:Xg w w.1.size A n ls)(hlok:LotsOk ls)(hm:m.Ok)(hL:L<=100)(hL1:1<=L)(hq:∀y∈ls,y.q.length<=L)(hc:∀y∈ls,y.c.length<=L)
 (hr:m.ratio.Sz L) (hsh:m.share.Sz L) (hpr:m.price.Sz L):
 Calls Tryz.prog 63 #[.slice A n c,MpV m] w (ZdO m ls w):=by
 have hn:n<=1000:=by rw[hs.1];exact hlok.len
 have hlo:(Qb ls m.inst).length<=1000:=Nat.le_trans (XI ls m.inst) hlok.len;have HLO:=jq (fun W (hb:Below w.1.size w W)=>Vp A n c ls m.inst W (hs.here hb) (by omega));have HPO:=jq (show ZdO m ls w=fun e w'=>∃v pn pm pf pp,e=.returned (.agg (QN v))/\v.m=m/\PlM w' w'.1.size v (Qe (Qb ls m.inst) m) (Qb ls m.inst) pn pm pf pp/\Below w.1.size w w' from rfl);generalize ZdO m ls w=post at*;have hokL:=Qz hlok m.inst;have HC:=jq (Zna hokL hm hlo hL hL1 (fun y hy=>hq y (List.mem_filter.1 hy).1) (fun y hy=>hc y (List.mem_filter.1 hy).1) hr hsh hpr);obtain⟨l1,l2,l3,l4⟩:=QB (Qb ls m.inst) m
 have HL4:=jq (show(Qe (Qb ls m.inst) m).n.length=(Qb ls m.inst).length/\(Qe (Qb ls m.inst) m).m.length=(Qb ls m.inst).length/\(Qe (Qb ls m.inst) m).f.length=(Qb ls m.inst).length/\(Qe (Qb ls m.inst) m).p.length=(Qb ls m.inst).length from⟨l1,l2,l3,l4⟩);have HLN:=jq hlo;have HK0:=jq (((Kp.start hp).new w.1.size rfl (mpA m).toArray 75).new (w.1.size+1) (by simp) zPl 117);rw[YG] at HK0;clear hs hn hp hq hc hr hsh hpr l1 l2 l3 l4 hlo hokL hlok hm;unfold MpV;rw[YG];unfold zPl at HK0;unfold S at*
 generalize Qb ls m.inst=old at*;generalize hx:Qe old m=x at*;obtain⟨tpt,htpt⟩:∃t,t=Qa x.parts:=⟨_,rfl⟩
 obtain⟨fpt,hfpt⟩:∃t,t=Qg x.part:=⟨_,rfl⟩
 rw[<-htpt,<-hfpt] at HC;have HPT:=jq htpt;have HFP:=jq hfpt;clear htpt hfpt hx;generalize Qa (Qw (old.map (·.q)))=tsq at*;generalize Qa (Qw (old.map (·.c)))=tsk at*;generalize Qa x.moved=tmv at*;generalize Qa x.taken=tfr at*;generalize Qa x.cash=tcs at*;generalize Qg x.exact=fex at*;generalize Qg (m.share.rat*((Qw (old.map (·.c)):Int):Rat))=fmv at*;generalize Qg ((Qw (old.map (·.q)):Int):Rat)=fsq at*;generalize Qg ((Qw (old.map (·.c)):Int):Rat)=fsk at*;generalize Qg (x.part*m.price.rat)=fcs at*;go_enter Tryz.func63,Tryz.ntmps63
 go_upto_region 1 with (fail)
 generalize (w.alloc (.cells #[.string ⟨m.cause.toArray⟩,.int .i64 m.day,.string ⟨m.inst.toArray⟩,.string ⟨m.other.toArray⟩,.string ⟨m.ratio.n.toArray⟩,.string ⟨m.ratio.d.toArray⟩,.string ⟨m.share.n.toArray⟩,.string ⟨m.share.d.toArray⟩,.string ⟨m.price.n.toArray⟩,.string ⟨m.price.d.toArray⟩,.bool m.keep] 75)).alloc (.cells #[.string ⟨#[]⟩,.int .i64 0,.string ⟨#[]⟩,.string ⟨#[]⟩,.string ⟨#[]⟩,.string ⟨#[]⟩,.string ⟨#[]⟩,.string ⟨#[]⟩,.string ⟨#[]⟩,.string ⟨#[]⟩,.bool false,.slice none 0 0,.string ⟨#[]⟩,.string ⟨#[]⟩,.string ⟨#[]⟩,.slice none 0 0,.slice none 0 0,.slice none 0 0,.slice none 0 0] 117)=W0 at*;obtain⟨N,hN⟩:∃N,N=old.length:=⟨_,rfl⟩
 rw[<-hN] at HC HL4 HLN;have HNN:=jq hN;clear hN
 go_cut [5] (fun p wc=>∃P5 Ao co,p=.pointer (some ⟨P5,0,none⟩)/\Hid (Kp w [(P5,QN (v0 m Ao N co),117),(w.1.size+1,#[.string ⟨#[]⟩,.int .i64 0,.string ⟨#[]⟩,.string ⟨#[]⟩,.string ⟨#[]⟩,.string ⟨#[]⟩,.string ⟨#[]⟩,.string ⟨#[]⟩,.string ⟨#[]⟩,.string ⟨#[]⟩,.bool false,.slice none 0 0,.string ⟨#[]⟩,.string ⟨#[]⟩,.string ⟨#[]⟩,.slice none 0 0,.slice none 0 0,.slice none 0 0,.slice none 0 0],117),(w.1.size,#[.string ⟨m.cause.toArray⟩,.int .i64 m.day,.string ⟨m.inst.toArray⟩,.string ⟨m.other.toArray⟩,.string ⟨m.ratio.n.toArray⟩,.string ⟨m.ratio.d.toArray⟩,.string ⟨m.share.n.toArray⟩,.string ⟨m.share.d.toArray⟩,.string ⟨m.price.n.toArray⟩,.string ⟨m.price.d.toArray⟩,.bool m.keep],75)] wc)/\Hid (Own L7 7 50 wc w.1.size (.slice Ao N co) old))
 case first=>
  obtain⟨z0,z1,z2,z3,z4,z5,z6,z7,z8,z9,z10⟩:=ZcH HK0.out (m:=m) (i:=1) rfl
  have HA0:=jq ((HK0.out.new W0.1.size rfl #[.string ⟨#[]⟩,.int .i64 0,.string ⟨#[]⟩,.string ⟨#[]⟩,.string ⟨#[]⟩,.string ⟨#[]⟩,.string ⟨#[]⟩,.string ⟨#[]⟩,.string ⟨#[]⟩,.string ⟨#[]⟩,.bool false,.slice none 0 0,.string ⟨#[]⟩,.string ⟨#[]⟩,.string ⟨#[]⟩,.slice none 0 0,.slice none 0 0,.slice none 0 0,.slice none 0 0] 117).drew);have a1:=ZcH HA0.out (m:=m) (i:=2) rfl
  go_region_held3 (fun X=>X.cell? ⟨w.1.size,0,none⟩=some (.string ⟨m.cause.toArray⟩)/\X.cell? ⟨w.1.size,1,none⟩=some (.int .i64 m.day)/\X.cell? ⟨w.1.size,2,none⟩=some (.string ⟨m.inst.toArray⟩)/\X.cell? ⟨w.1.size,3,none⟩=some (.string ⟨m.other.toArray⟩)/\X.cell? ⟨w.1.size,4,none⟩=some (.string ⟨m.ratio.n.toArray⟩)/\X.cell? ⟨w.1.size,5,none⟩=some (.string ⟨m.ratio.d.toArray⟩)/\X.cell? ⟨w.1.size,6,none⟩=some (.string ⟨m.share.n.toArray⟩)/\X.cell? ⟨w.1.size,7,none⟩=some (.string ⟨m.share.d.toArray⟩)/\X.cell? ⟨w.1.size,8,none⟩=some (.string ⟨m.price.n.toArray⟩)/\X.cell? ⟨w.1.size,9,none⟩=some (.string ⟨m.price.d.toArray⟩)/\X.cell? ⟨w.1.size,10,none⟩=some (.bool m.keep))
   (first
     |with_reducible exact k3
     |with_reducible exact k2
     |with_reducible exact k1
     |with_reducible exact a1
     |go_keep)
   (first
     |(go_at_call 9;first
        |(refine(HLO.out _ HK0.out.drew.bl).mono ?_;rintro e w1 ⟨Ao,co,rfl,ho,hb⟩;rw[<-HNN.out] at ho;rw[<-HNN.out];try unfold S
          have hk:=HK0.out.drew.here hb;have ho1:=ho.base_ HK0.out.drew.bl.size;have hk2:=hk.new w1.1.size rfl #[.string ⟨#[]⟩,.int .i64 0,.string ⟨#[]⟩,.string ⟨#[]⟩,.string ⟨#[]⟩,.string ⟨#[]⟩,.string ⟨#[]⟩,.string ⟨#[]⟩,.string ⟨#[]⟩,.string ⟨#[]⟩,.bool false,.slice none 0 0,.string ⟨#[]⟩,.string ⟨#[]⟩,.string ⟨#[]⟩,.slice none 0 0,.slice none 0 0,.slice none 0 0,.slice none 0 0] 117;have hst:=ZnF (hk2.at_ 0 rfl) rfl m Ao N co;have hk3:=hk2.row 0 rfl (QN (v0 m Ao N co));have ho3:=(ho1.alloc (.cells #[.string ⟨#[]⟩,.int .i64 0,.string ⟨#[]⟩,.string ⟨#[]⟩,.string ⟨#[]⟩,.string ⟨#[]⟩,.string ⟨#[]⟩,.string ⟨#[]⟩,.string ⟨#[]⟩,.string ⟨#[]⟩,.bool false,.slice none 0 0,.string ⟨#[]⟩,.string ⟨#[]⟩,.string ⟨#[]⟩,.slice none 0 0,.slice none 0 0,.slice none 0 0,.slice none 0 0] 117)).farR (hk2.at_ 0 rfl) (by decide) (QN (v0 m Ao N co));have k1:=ZcH hk (m:=m) (i:=1) rfl;have k2:=ZcH hk2 (m:=m) (i:=2) rfl;have k3:=ZcH hk3 (m:=m) (i:=2) rfl)
        |(refine(HLO.out _ HA0.out.bl).mono ?_;rintro e w1 ⟨Ao,co,rfl,ho,hb⟩;rw[<-HNN.out] at ho;rw[<-HNN.out];try unfold S
          have hk2:=HA0.out.here hb;have ho1:=ho.base_ HA0.out.bl.size;have ho3:=ho1.farR (hk2.at_ 0 rfl) (by decide) (QN (v0 m Ao N co));have hst:=ZnF (hk2.at_ 0 rfl) rfl m Ao N co;have hk3:=hk2.row 0 rfl (QN (v0 m Ao N co));have k2:=ZcH hk2 (m:=m) (i:=2) rfl;have k3:=ZcH hk3 (m:=m) (i:=2) rfl)))
  all_goals
   go_wp2_with fail
   go_meet
   exact⟨_,Ao,co,rfl,hk3,ho3⟩
 case rest=>
 obtain⟨P5,Ao,co,rfl,HK1,HO1⟩:=hcut
 clear HK0 HLO;have e11:(QN (v0 m Ao N co))[11]?=some (.slice Ao N co):=rfl;have c11:=HK1.out.c 0 11 rfl e11;have HB1:=jq HK1.out.bl;have hNl:N<=1000:=HLN.out;go_wp2_with fail
 go_loopw [6,7,9,21] (fun s t _ j wr=>∃(k:Nat) (A1:Option Addr) (c1:Nat) (A2:Option Addr) (c2:Nat),k<=N/\j=.int .i64 k/\s=.slice A1 ((old.take k).map (·.q)).length c1/\t=.slice A2 ((old.take k).map (·.c)).length c2/\Hid (TwoO wc.1.size wc wr A1 ((old.take k).map (·.q)).length c1 ((old.take k).map (·.q)) A2 ((old.take k).map (·.c)).length c2 ((old.take k).map (·.c)))) (fun _ _ _ j _=>N-(intOf j).toNat)
 case atStart=>exact⟨0,none,0,none,0,Nat.zero_le _,rfl,rfl,rfl,TwoO.nil (Nat.le_refl _) (Below.refl _ _)⟩
 case round=>
  obtain⟨k,A1,c1,A2,c2,hk,rfl,rfl,rfl,HT⟩:=hrel
  by_cases hlt:k<N
  ·obtain⟨b,off,y,hAe,hb,hy,d0,d1,d2,d3,d4,d5,d6⟩:=((HO1.out.below HT.out.bl).sl Ql).lot7 hlt
   have HTQ:=jq (show(old.take (k+1)).map (·.q)=(old.take k).map (·.q)++[y.q] by obtain⟨h1,h2⟩:=List.getElem?_eq_some_iff.1 hy;rw[List.take_succ_eq_append_getElem h1,h2,List.map_append];rfl);have HTC:=jq (show(old.take (k+1)).map (·.c)=(old.take k).map (·.c)++[y.c] by obtain⟨h1,h2⟩:=List.getElem?_eq_some_iff.1 hy;rw[List.take_succ_eq_append_getElem h1,h2,List.map_append];rfl);subst hAe;clear hy c11;generalize hqk:(old.take k).map (·.q)=qk at*;generalize hck:(old.take k).map (·.c)=ck at*
   have HLQ:=jq (show qk.length=k/\ck.length=k/\k<1000 by
    have h1:(old.take k).length=k:=by rw[List.length_take,<-HNN.out];omega
    rw[<-hqk,<-hck,List.length_map,List.length_map];omega)
   clear hqk hck;have HYB:=jq (show BlkB (wr.alloc (.cells #[.string ⟨y.id.toArray⟩,.string ⟨y.inst.toArray⟩,.int .i64 y.acq,.int .i64 y.opn,.string ⟨y.q.toArray⟩,.string ⟨y.c.toArray⟩,.string ⟨y.u.toArray⟩] 50)) wr.1.size #[.string ⟨y.id.toArray⟩,.string ⟨y.inst.toArray⟩,.int .i64 y.acq,.int .i64 y.opn,.string ⟨y.q.toArray⟩,.string ⟨y.c.toArray⟩,.string ⟨y.u.toArray⟩] 50 from heap_alloc_new wr _);have HTA:=jq (HT.out.alloc (.cells #[.string ⟨y.id.toArray⟩,.string ⟨y.inst.toArray⟩,.int .i64 y.acq,.int .i64 y.opn,.string ⟨y.q.toArray⟩,.string ⟨y.c.toArray⟩,.string ⟨y.u.toArray⟩] 50));have HO1:=jq (show ∀g,(Value.slice A1 qk.length c1).ownBlock=some g->g<wr.1.size from fun g hg=>(Zcg HT.out.o1 hg).2);have HO2:=jq (show ∀g,(Value.slice A2 ck.length c2).ownBlock=some g->g<wr.1.size from fun g hg=>(Zcg HT.out.o2 hg).2);have HSW:=jq (show(wr.alloc (.cells #[.string ⟨y.id.toArray⟩,.string ⟨y.inst.toArray⟩,.int .i64 y.acq,.int .i64 y.opn,.string ⟨y.q.toArray⟩,.string ⟨y.c.toArray⟩,.string ⟨y.u.toArray⟩] 50)).heap.size=wr.1.size+1 by simp);go_upto_region 6 with (fail)
   clear d0 d1 d2 d3 d4 d5 d6;generalize wr.alloc _=Wy at*;have T0:=HTA.out;have HL45:=jq (show ∀X,BlkB X wr.1.size #[.string ⟨y.id.toArray⟩,.string ⟨y.inst.toArray⟩,.int .i64 y.acq,.int .i64 y.opn,.string ⟨y.q.toArray⟩,.string ⟨y.c.toArray⟩,.string ⟨y.u.toArray⟩] 50->X.cell? ⟨wr.1.size,4,none⟩=some (.string ⟨y.q.toArray⟩)/\X.cell? ⟨wr.1.size,5,none⟩=some (.string ⟨y.c.toArray⟩) from fun X h=>Zoy h);have bl0:=HYB.out
   go_region_held3 (fun X=>X.cell? ⟨wr.1.size,4,none⟩=some (.string ⟨y.q.toArray⟩)/\X.cell? ⟨wr.1.size,5,none⟩=some (.string ⟨y.c.toArray⟩))
    (first
      |(refine HL45.out _ ?_;((repeat (first|with_reducible assumption|with_reducible refine BlkB.drew' ?_|(refine BlkB.new' ?_;first|rfl|(simp;done))|with_reducible refine BlkB.alloc ?_ _));done))
      |go_keep)
    (first
      |(refine JV _ (by rfl) (.tmp 25) (.tmp 28) _ (by rfl) ZbG XW Zbu (.slice A1 qk.length c1) qk (by rfl) (TwoO.o1 (base:=wc.1.size) (W1:=wc) (xs:=qk) (A2:=A2) (n2:=ck.length) (c2:=c2) (ys:=ck) ?_) _ _ 1 1 [y.q] (by rfl) (Zir (T:=24) ?_) (by have:=HLQ.out;omega) (TwoO.hb (A1:=A1) (n1:=qk.length) (c1:=c1) (base:=wc.1.size) (W1:=wc) (xs:=qk) (A2:=A2) (n2:=ck.length) (c2:=c2) (ys:=ck) ?_) ?_
        focus ((repeat (first|with_reducible assumption|with_reducible refine TwoO.drew' ?_|with_reducible refine TwoO.alloc ?_ _));done)
        focus ((repeat (first|with_reducible assumption|with_reducible refine BlkB.drew' ?_|(refine BlkB.new' ?_;first|rfl|(simp;done))|with_reducible refine BlkB.alloc ?_ _));done)
        focus ((repeat (first|with_reducible assumption|with_reducible refine TwoO.drew' ?_|with_reducible refine TwoO.alloc ?_ _));done)
        intro B1 e1 X1 ho1 hg1 hat1;have T1:=TwoO.app1 (base:=wc.1.size) (W1:=wc) (xs:=qk) (A2:=A2) (n2:=ck.length) (c2:=c2) (ys:=ck) ?_ ho1 hg1 hat1
        first|(focus ((repeat (first|with_reducible assumption|with_reducible refine TwoO.drew' ?_|with_reducible refine TwoO.alloc ?_ _));done))|(rotate_left;focus ((repeat (first|with_reducible assumption|with_reducible refine TwoO.drew' ?_|with_reducible refine TwoO.alloc ?_ _));done))
        have hs1:=T1.hb;clear hat1 ho1;have bl1:BlkB X1 wr.1.size #[.string ⟨y.id.toArray⟩,.string ⟨y.inst.toArray⟩,.int .i64 y.acq,.int .i64 y.opn,.string ⟨y.q.toArray⟩,.string ⟨y.c.toArray⟩,.string ⟨y.u.toArray⟩] 50:=BlkB.gr hg1 (fun e=>by have:=HO1.out _ e.symm;omega) ?_
        first|(focus ((repeat (first|with_reducible assumption|with_reducible refine BlkB.drew' ?_|(refine BlkB.new' ?_;first|rfl|(simp;done))|with_reducible refine BlkB.alloc ?_ _));done))|(rotate_left;focus ((repeat (first|with_reducible assumption|with_reducible refine BlkB.drew' ?_|(refine BlkB.new' ?_;first|rfl|(simp;done))|with_reducible refine BlkB.alloc ?_ _));done))
        first
         |(have bo1:BlkB X1 Wy.1.size #[.string ⟨y.c.toArray⟩] 24:=BlkB.gr hg1 (fun e=>by have:=HO1.out _ e.symm;have:=HSW.out;omega) ?_
           first|(focus ((repeat (first|with_reducible assumption|with_reducible refine BlkB.drew' ?_|(refine BlkB.new' ?_;first|rfl|(simp;done))|with_reducible refine BlkB.alloc ?_ _));done))|(rotate_left;focus ((repeat (first|with_reducible assumption|with_reducible refine BlkB.drew' ?_|(refine BlkB.new' ?_;first|rfl|(simp;done))|with_reducible refine BlkB.alloc ?_ _));done))
           clear hg1)
         |(have bo1:BlkB X1 (Wy.1.size+1) #[.string ⟨y.c.toArray⟩] 24:=BlkB.gr hg1 (fun e=>by have:=HO1.out _ e.symm;have:=HSW.out;omega) ?_
           first|(focus ((repeat (first|with_reducible assumption|with_reducible refine BlkB.drew' ?_|(refine BlkB.new' ?_;first|rfl|(simp;done))|with_reducible refine BlkB.alloc ?_ _));done))|(rotate_left;focus ((repeat (first|with_reducible assumption|with_reducible refine BlkB.drew' ?_|(refine BlkB.new' ?_;first|rfl|(simp;done))|with_reducible refine BlkB.alloc ?_ _));done))
           clear hg1)
         |clear hg1)
      |(refine JV _ (by rfl) (.tmp 25) (.tmp 28) _ (by rfl) ZbG XW Zbu (.slice A1 qk.length c1) qk (by rfl) (TwoO.o1 (base:=wc.1.size) (W1:=wc) (xs:=qk) (A2:=B2) (n2:=ck.length+1) (c2:=e2) (ys:=ck++[y.c]) ?_) _ _ 1 1 [y.q] (by rfl) (Zir (T:=24) ?_) (by have:=HLQ.out;omega) (TwoO.hb (A1:=A1) (n1:=qk.length) (c1:=c1) (base:=wc.1.size) (W1:=wc) (xs:=qk) (A2:=B2) (n2:=ck.length+1) (c2:=e2) (ys:=ck++[y.c]) ?_) ?_
        focus ((repeat (first|with_reducible assumption|with_reducible refine TwoO.drew' ?_|with_reducible refine TwoO.alloc ?_ _));done)
        focus ((repeat (first|with_reducible assumption|with_reducible refine BlkB.drew' ?_|(refine BlkB.new' ?_;first|rfl|(simp;done))|with_reducible refine BlkB.alloc ?_ _));done)
        focus ((repeat (first|with_reducible assumption|with_reducible refine TwoO.drew' ?_|with_reducible refine TwoO.alloc ?_ _));done)
        intro B1 e1 X1 ho1 hg1 hat1;have T1:=TwoO.app1 (base:=wc.1.size) (W1:=wc) (xs:=qk) (A2:=B2) (n2:=ck.length+1) (c2:=e2) (ys:=ck++[y.c]) ?_ ho1 hg1 hat1
        first|(focus ((repeat (first|with_reducible assumption|with_reducible refine TwoO.drew' ?_|with_reducible refine TwoO.alloc ?_ _));done))|(rotate_left;focus ((repeat (first|with_reducible assumption|with_reducible refine TwoO.drew' ?_|with_reducible refine TwoO.alloc ?_ _));done))
        have hs1:=T1.hb;clear hat1 ho1;have bl1:BlkB X1 wr.1.size #[.string ⟨y.id.toArray⟩,.string ⟨y.inst.toArray⟩,.int .i64 y.acq,.int .i64 y.opn,.string ⟨y.q.toArray⟩,.string ⟨y.c.toArray⟩,.string ⟨y.u.toArray⟩] 50:=BlkB.gr hg1 (fun e=>by have:=HO1.out _ e.symm;omega) ?_
        first|(focus ((repeat (first|with_reducible assumption|with_reducible refine BlkB.drew' ?_|(refine BlkB.new' ?_;first|rfl|(simp;done))|with_reducible refine BlkB.alloc ?_ _));done))|(rotate_left;focus ((repeat (first|with_reducible assumption|with_reducible refine BlkB.drew' ?_|(refine BlkB.new' ?_;first|rfl|(simp;done))|with_reducible refine BlkB.alloc ?_ _));done))
        first
         |(have bo1:BlkB X1 Wy.1.size #[.string ⟨y.c.toArray⟩] 24:=BlkB.gr hg1 (fun e=>by have:=HO1.out _ e.symm;have:=HSW.out;omega) ?_
           first|(focus ((repeat (first|with_reducible assumption|with_reducible refine BlkB.drew' ?_|(refine BlkB.new' ?_;first|rfl|(simp;done))|with_reducible refine BlkB.alloc ?_ _));done))|(rotate_left;focus ((repeat (first|with_reducible assumption|with_reducible refine BlkB.drew' ?_|(refine BlkB.new' ?_;first|rfl|(simp;done))|with_reducible refine BlkB.alloc ?_ _));done))
           clear hg1)
         |(have bo1:BlkB X1 (Wy.1.size+1) #[.string ⟨y.c.toArray⟩] 24:=BlkB.gr hg1 (fun e=>by have:=HO1.out _ e.symm;have:=HSW.out;omega) ?_
           first|(focus ((repeat (first|with_reducible assumption|with_reducible refine BlkB.drew' ?_|(refine BlkB.new' ?_;first|rfl|(simp;done))|with_reducible refine BlkB.alloc ?_ _));done))|(rotate_left;focus ((repeat (first|with_reducible assumption|with_reducible refine BlkB.drew' ?_|(refine BlkB.new' ?_;first|rfl|(simp;done))|with_reducible refine BlkB.alloc ?_ _));done))
           clear hg1)
         |clear hg1)
      |(refine JV _ (by rfl) (.tmp 30) (.tmp 33) _ (by rfl) ZbG XW Zbu (.slice A2 ck.length c2) ck (by rfl) (TwoO.o2 (base:=wc.1.size) (W1:=wc) (ys:=ck) (A1:=A1) (n1:=qk.length) (c1:=c1) (xs:=qk) ?_) _ _ 1 1 [y.c] (by rfl) (Zir (T:=24) ?_) (by have:=HLQ.out;omega) (TwoO.hb (A2:=A2) (n2:=ck.length) (c2:=c2) (base:=wc.1.size) (W1:=wc) (ys:=ck) (A1:=A1) (n1:=qk.length) (c1:=c1) (xs:=qk) ?_) ?_
        focus ((repeat (first|with_reducible assumption|with_reducible refine TwoO.drew' ?_|with_reducible refine TwoO.alloc ?_ _));done)
        focus ((repeat (first|with_reducible assumption|with_reducible refine BlkB.drew' ?_|(refine BlkB.new' ?_;first|rfl|(simp;done))|with_reducible refine BlkB.alloc ?_ _));done)
        focus ((repeat (first|with_reducible assumption|with_reducible refine TwoO.drew' ?_|with_reducible refine TwoO.alloc ?_ _));done)
        intro B2 e2 X2 ho2 hg2 hat2;have T2:=TwoO.app2 (base:=wc.1.size) (W1:=wc) (ys:=ck) (A1:=A1) (n1:=qk.length) (c1:=c1) (xs:=qk) ?_ ho2 hg2 hat2
        first|(focus ((repeat (first|with_reducible assumption|with_reducible refine TwoO.drew' ?_|with_reducible refine TwoO.alloc ?_ _));done))|(rotate_left;focus ((repeat (first|with_reducible assumption|with_reducible refine TwoO.drew' ?_|with_reducible refine TwoO.alloc ?_ _));done))
        have hs2:=T2.hb;clear hat2 ho2;have bl2:BlkB X2 wr.1.size #[.string ⟨y.id.toArray⟩,.string ⟨y.inst.toArray⟩,.int .i64 y.acq,.int .i64 y.opn,.string ⟨y.q.toArray⟩,.string ⟨y.c.toArray⟩,.string ⟨y.u.toArray⟩] 50:=BlkB.gr hg2 (fun e=>by have:=HO2.out _ e.symm;omega) ?_
        first|(focus ((repeat (first|with_reducible assumption|with_reducible refine BlkB.drew' ?_|(refine BlkB.new' ?_;first|rfl|(simp;done))|with_reducible refine BlkB.alloc ?_ _));done))|(rotate_left;focus ((repeat (first|with_reducible assumption|with_reducible refine BlkB.drew' ?_|(refine BlkB.new' ?_;first|rfl|(simp;done))|with_reducible refine BlkB.alloc ?_ _));done))
        first
         |(have bo2:BlkB X2 Wy.1.size #[.string ⟨y.q.toArray⟩] 24:=BlkB.gr hg2 (fun e=>by have:=HO2.out _ e.symm;have:=HSW.out;omega) ?_
           first|(focus ((repeat (first|with_reducible assumption|with_reducible refine BlkB.drew' ?_|(refine BlkB.new' ?_;first|rfl|(simp;done))|with_reducible refine BlkB.alloc ?_ _));done))|(rotate_left;focus ((repeat (first|with_reducible assumption|with_reducible refine BlkB.drew' ?_|(refine BlkB.new' ?_;first|rfl|(simp;done))|with_reducible refine BlkB.alloc ?_ _));done))
           clear hg2)
         |(have bo2:BlkB X2 (Wy.1.size+1) #[.string ⟨y.q.toArray⟩] 24:=BlkB.gr hg2 (fun e=>by have:=HO2.out _ e.symm;have:=HSW.out;omega) ?_
           first|(focus ((repeat (first|with_reducible assumption|with_reducible refine BlkB.drew' ?_|(refine BlkB.new' ?_;first|rfl|(simp;done))|with_reducible refine BlkB.alloc ?_ _));done))|(rotate_left;focus ((repeat (first|with_reducible assumption|with_reducible refine BlkB.drew' ?_|(refine BlkB.new' ?_;first|rfl|(simp;done))|with_reducible refine BlkB.alloc ?_ _));done))
           clear hg2)
         |clear hg2)
      |(refine JV _ (by rfl) (.tmp 30) (.tmp 33) _ (by rfl) ZbG XW Zbu (.slice A2 ck.length c2) ck (by rfl) (TwoO.o2 (base:=wc.1.size) (W1:=wc) (ys:=ck) (A1:=B1) (n1:=qk.length+1) (c1:=e1) (xs:=qk++[y.q]) ?_) _ _ 1 1 [y.c] (by rfl) (Zir (T:=24) ?_) (by have:=HLQ.out;omega) (TwoO.hb (A2:=A2) (n2:=ck.length) (c2:=c2) (base:=wc.1.size) (W1:=wc) (ys:=ck) (A1:=B1) (n1:=qk.length+1) (c1:=e1) (xs:=qk++[y.q]) ?_) ?_
        focus ((repeat (first|with_reducible assumption|with_reducible refine TwoO.drew' ?_|with_reducible refine TwoO.alloc ?_ _));done)
        focus ((repeat (first|with_reducible assumption|with_reducible refine BlkB.drew' ?_|(refine BlkB.new' ?_;first|rfl|(simp;done))|with_reducible refine BlkB.alloc ?_ _));done)
        focus ((repeat (first|with_reducible assumption|with_reducible refine TwoO.drew' ?_|with_reducible refine TwoO.alloc ?_ _));done)
        intro B2 e2 X2 ho2 hg2 hat2;have T2:=TwoO.app2 (base:=wc.1.size) (W1:=wc) (ys:=ck) (A1:=B1) (n1:=qk.length+1) (c1:=e1) (xs:=qk++[y.q]) ?_ ho2 hg2 hat2
        first|(focus ((repeat (first|with_reducible assumption|with_reducible refine TwoO.drew' ?_|with_reducible refine TwoO.alloc ?_ _));done))|(rotate_left;focus ((repeat (first|with_reducible assumption|with_reducible refine TwoO.drew' ?_|with_reducible refine TwoO.alloc ?_ _));done))
        have hs2:=T2.hb;clear hat2 ho2;have bl2:BlkB X2 wr.1.size #[.string ⟨y.id.toArray⟩,.string ⟨y.inst.toArray⟩,.int .i64 y.acq,.int .i64 y.opn,.string ⟨y.q.toArray⟩,.string ⟨y.c.toArray⟩,.string ⟨y.u.toArray⟩] 50:=BlkB.gr hg2 (fun e=>by have:=HO2.out _ e.symm;omega) ?_
        first|(focus ((repeat (first|with_reducible assumption|with_reducible refine BlkB.drew' ?_|(refine BlkB.new' ?_;first|rfl|(simp;done))|with_reducible refine BlkB.alloc ?_ _));done))|(rotate_left;focus ((repeat (first|with_reducible assumption|with_reducible refine BlkB.drew' ?_|(refine BlkB.new' ?_;first|rfl|(simp;done))|with_reducible refine BlkB.alloc ?_ _));done))
        first
         |(have bo2:BlkB X2 Wy.1.size #[.string ⟨y.q.toArray⟩] 24:=BlkB.gr hg2 (fun e=>by have:=HO2.out _ e.symm;have:=HSW.out;omega) ?_
           first|(focus ((repeat (first|with_reducible assumption|with_reducible refine BlkB.drew' ?_|(refine BlkB.new' ?_;first|rfl|(simp;done))|with_reducible refine BlkB.alloc ?_ _));done))|(rotate_left;focus ((repeat (first|with_reducible assumption|with_reducible refine BlkB.drew' ?_|(refine BlkB.new' ?_;first|rfl|(simp;done))|with_reducible refine BlkB.alloc ?_ _));done))
           clear hg2)
         |(have bo2:BlkB X2 (Wy.1.size+1) #[.string ⟨y.q.toArray⟩] 24:=BlkB.gr hg2 (fun e=>by have:=HO2.out _ e.symm;have:=HSW.out;omega) ?_
           first|(focus ((repeat (first|with_reducible assumption|with_reducible refine BlkB.drew' ?_|(refine BlkB.new' ?_;first|rfl|(simp;done))|with_reducible refine BlkB.alloc ?_ _));done))|(rotate_left;focus ((repeat (first|with_reducible assumption|with_reducible refine BlkB.drew' ?_|(refine BlkB.new' ?_;first|rfl|(simp;done))|with_reducible refine BlkB.alloc ?_ _));done))
           clear hg2)
         |clear hg2)
      |fail)
   all_goals
    go_wp2_with fail
    go_roundw
    case rel=>
     refine⟨k+1,B1,e1,B2,e2,by omega,by go_num,by rw[HTQ.out,List.length_append];rfl,by rw[HTC.out,List.length_append];rfl,?_⟩
     show TwoO _ _ _ _ _ _ _ _ _ _ _
     rw[HTQ.out,HTC.out,List.length_append,List.length_append]
     first|exact T1|exact T2
    case measure=>simp[intOf];omega
  ·obtain rfl:k=N:=by omega
   have htq:(old.take k).map (·.q)=old.map (·.q):=by rw[List.take_of_length_le (by rw[HNN.out];exact Nat.le_refl _)]
   have htc:(old.take k).map (·.c)=old.map (·.c):=by rw[List.take_of_length_le (by rw[HNN.out];exact Nat.le_refl _)]
   have hlq:(old.map (·.q)).length=k:=by rw[List.length_map];exact HNN.out.symm
   have hlc:(old.map (·.c)).length=k:=by rw[List.length_map];exact HNN.out.symm
   rw[htq,htc,hlq,hlc] at HT;rw[htq,htc,hlq,hlc];have HPR:=jq (show Pr w Ao k co old A1 c1 (old.map (·.q)) A2 c2 (old.map (·.c)) [(P5,QN (v0 m Ao k co),117),(w.1.size+1,#[.string ⟨#[]⟩,.int .i64 0,.string ⟨#[]⟩,.string ⟨#[]⟩,.string ⟨#[]⟩,.string ⟨#[]⟩,.string ⟨#[]⟩,.string ⟨#[]⟩,.string ⟨#[]⟩,.string ⟨#[]⟩,.bool false,.slice none 0 0,.string ⟨#[]⟩,.string ⟨#[]⟩,.string ⟨#[]⟩,.slice none 0 0,.slice none 0 0,.slice none 0 0,.slice none 0 0],117),(w.1.size,#[.string ⟨m.cause.toArray⟩,.int .i64 m.day,.string ⟨m.inst.toArray⟩,.string ⟨m.other.toArray⟩,.string ⟨m.ratio.n.toArray⟩,.string ⟨m.ratio.d.toArray⟩,.string ⟨m.share.n.toArray⟩,.string ⟨m.share.d.toArray⟩,.string ⟨m.price.n.toArray⟩,.string ⟨m.price.d.toArray⟩,.bool m.keep],75)] wr from⟨HK1.out.here HT.out.bl,HO1.out.below HT.out.bl,HT.out.o1.base_ HB1.out.size,HT.out.o2.base_ HB1.out.size⟩);generalize old.map (·.q)=qs at*;generalize old.map (·.c)=ks at*;clear htq htc hlq hlc HT HK1 HO1 HB1 e11 c11;have HRT:=jq (show ∀X bs i,Pr w Ao k co old A1 c1 qs A2 c2 ks bs X->bs[i]?=some (w.1.size,#[.string ⟨m.cause.toArray⟩,.int .i64 m.day,.string ⟨m.inst.toArray⟩,.string ⟨m.other.toArray⟩,.string ⟨m.ratio.n.toArray⟩,.string ⟨m.ratio.d.toArray⟩,.string ⟨m.share.n.toArray⟩,.string ⟨m.share.d.toArray⟩,.string ⟨m.price.n.toArray⟩,.string ⟨m.price.d.toArray⟩,.bool m.keep],75)->X.cell? ⟨w.1.size,4,none⟩=some (.string ⟨m.ratio.n.toArray⟩)/\X.cell? ⟨w.1.size,5,none⟩=some (.string ⟨m.ratio.d.toArray⟩) from fun X bs i h hb=>⟨h.k.c i 4 hb rfl,h.k.c i 5 hb rfl⟩);have HPA:=jq ((HPR.out.new wr.1.size rfl #[.string ⟨#[]⟩,.string ⟨#[]⟩] 26).drew);go_upto_region 8 with (fail)
   go_cut [10] (fun p wc=>∃P10,p=.pointer (some ⟨P10,0,none⟩)/\Hid (Pr w Ao k co old A1 c1 qs A2 c2 ks ((P10,#[.string ⟨fex.n.toArray⟩,.string ⟨fex.d.toArray⟩],26)::[(P5,QN (v0 m Ao k co),117),(w.1.size+1,#[.string ⟨#[]⟩,.int .i64 0,.string ⟨#[]⟩,.string ⟨#[]⟩,.string ⟨#[]⟩,.string ⟨#[]⟩,.string ⟨#[]⟩,.string ⟨#[]⟩,.string ⟨#[]⟩,.string ⟨#[]⟩,.bool false,.slice none 0 0,.string ⟨#[]⟩,.string ⟨#[]⟩,.string ⟨#[]⟩,.slice none 0 0,.slice none 0 0,.slice none 0 0,.slice none 0 0],117),(w.1.size,#[.string ⟨m.cause.toArray⟩,.int .i64 m.day,.string ⟨m.inst.toArray⟩,.string ⟨m.other.toArray⟩,.string ⟨m.ratio.n.toArray⟩,.string ⟨m.ratio.d.toArray⟩,.string ⟨m.share.n.toArray⟩,.string ⟨m.share.d.toArray⟩,.string ⟨m.price.n.toArray⟩,.string ⟨m.price.d.toArray⟩,.bool m.keep],75)]) wc))
   case first=>
    have s0:=HRT.out _ _ 2 HPR.out rfl;obtain⟨s00,s01⟩:=s0
    have s0a:=HRT.out _ _ 3 HPA.out rfl
    go_region_held3 (fun X=>X.cell? ⟨w.1.size,4,none⟩=some (.string ⟨m.ratio.n.toArray⟩)/\X.cell? ⟨w.1.size,5,none⟩=some (.string ⟨m.ratio.d.toArray⟩))
     (first
       |with_reducible exact s4
       |with_reducible exact s3a
       |with_reducible exact s3
       |with_reducible exact s2a
       |with_reducible exact s2
       |with_reducible exact s1a
       |with_reducible exact s1
       |with_reducible exact s0a
       |go_keep)
     (first
       |(go_at_call 70;first
          |(refine(HC.out.c1 _ _ _ HPR.out.drew.k.pw (HPR.out.drew.q.sl XW)).mono ?_;rintro e y1 ⟨rfl,hy⟩
            have g1:=HPR.out.drew.here hy;have s1:=HRT.out _ _ 2 g1 rfl;have g1a:=g1.new y1.1.size rfl #[.string ⟨#[]⟩,.string ⟨#[]⟩] 26;have s1a:=HRT.out _ _ 3 g1a rfl)
          |(refine(HC.out.c1 _ _ _ HPA.out.k.pw (HPA.out.q.sl XW)).mono ?_;rintro e y1 ⟨rfl,hy⟩
            have g1:=HPA.out.here hy;have s1:=HRT.out _ _ 3 g1 rfl))
       |(go_at_call 19;first
          |(refine(HC.out.c2 _ g1.k.pw).mono ?_;rintro e y2 ⟨rfl,hy⟩
            have g2:=g1.here hy)
          |(refine(HC.out.c2 _ g1a.k.pw).mono ?_;rintro e y2 ⟨rfl,hy⟩
            have g2:=g1a.here hy)
         first
          |(have s2:=HRT.out _ _ 2 g2 rfl
            have g2a:=g2.new y2.1.size rfl #[.string ⟨#[]⟩,.string ⟨#[]⟩] 26;have s2a:=HRT.out _ _ 3 g2a rfl)
          |(have s2:=HRT.out _ _ 3 g2 rfl))
       |(go_at_call 42;first
          |(refine(HC.out.c3 _ g2.k.pw).mono ?_;rintro e y3 ⟨rfl,hy⟩
            have g3:=g2.here hy)
          |(refine(HC.out.c3 _ g2a.k.pw).mono ?_;rintro e y3 ⟨rfl,hy⟩
            have g3:=g2a.here hy)
         first
          |(have s3:=HRT.out _ _ 2 g3 rfl
            have g3a:=g3.new y3.1.size rfl #[.string ⟨#[]⟩,.string ⟨#[]⟩] 26;have s3a:=HRT.out _ _ 3 g3a rfl;have g4:=(g3a.set 0 0 rfl (by decide) (by decide) (.string ⟨fex.n.toArray⟩)).set 0 1 rfl (by decide) (by decide) (.string ⟨fex.d.toArray⟩);have s4:=HRT.out _ _ 3 g4 rfl)
          |(have s3:=HRT.out _ _ 3 g3 rfl
            have n0:=g3.k.c 0 0 rfl rfl;have n1:=g3.k.c 0 1 rfl rfl;have f0:=g3.k.f 0 0 rfl;have f1:=g3.k.f 0 1 rfl;have g4:=(g3.set 0 0 rfl (by decide) (by decide) (.string ⟨fex.n.toArray⟩)).set 0 1 rfl (by decide) (by decide) (.string ⟨fex.d.toArray⟩);have s4:=HRT.out _ _ 3 g4 rfl)))
    all_goals
     go_wp2_with fail
     go_meet
     first
      |exact⟨_,rfl,g4⟩
      |exact⟨_,rfl,g3.new _ rfl _ _⟩
   case rest=>
   obtain⟨P10,rfl,HP1⟩:=hcut
   clear HPR HPA HRT;have q0:=HP1.out.k.c 0 0 rfl rfl;have q1:=HP1.out.k.c 0 1 rfl rfl;go_wp2_with fail
   refine(HC.out.c4 _ HP1.out.k.pw).mono ?_;rintro e w4 ⟨rfl,hb4⟩;have HP2:=jq (HP1.out.here hb4);clear q0 q1 hb4 HP1;have f12:=HP2.out.k.f 1 12 rfl;have f13:=HP2.out.k.f 1 13 rfl;have f14:=HP2.out.k.f 1 14 rfl;have n12:=HP2.out.k.c 1 12 rfl (show(QN (v0 m Ao k co))[12]?=some (.string ⟨#[]⟩) from rfl);have n13:=HP2.out.k.c 1 13 rfl (show(QN (v0 m Ao k co))[13]?=some (.string ⟨#[]⟩) from rfl);have n14:=HP2.out.k.c 1 14 rfl (show(QN (v0 m Ao k co))[14]?=some (.string ⟨#[]⟩) from rfl);obtain⟨v1,hv1⟩:∃v1:PlV,v1={v0 m Ao k co with parts:=tpt,part:=fpt}:=⟨_,rfl⟩
   have HP3:=jq (show Pr w Ao k co old A1 c1 qs A2 c2 ks [(P10,#[.string ⟨fex.n.toArray⟩,.string ⟨fex.d.toArray⟩],26),(P5,QN v1,117),(w.1.size+1,#[.string ⟨#[]⟩,.int .i64 0,.string ⟨#[]⟩,.string ⟨#[]⟩,.string ⟨#[]⟩,.string ⟨#[]⟩,.string ⟨#[]⟩,.string ⟨#[]⟩,.string ⟨#[]⟩,.string ⟨#[]⟩,.bool false,.slice none 0 0,.string ⟨#[]⟩,.string ⟨#[]⟩,.string ⟨#[]⟩,.slice none 0 0,.slice none 0 0,.slice none 0 0,.slice none 0 0],117),(w.1.size,#[.string ⟨m.cause.toArray⟩,.int .i64 m.day,.string ⟨m.inst.toArray⟩,.string ⟨m.other.toArray⟩,.string ⟨m.ratio.n.toArray⟩,.string ⟨m.ratio.d.toArray⟩,.string ⟨m.share.n.toArray⟩,.string ⟨m.share.d.toArray⟩,.string ⟨m.price.n.toArray⟩,.string ⟨m.price.d.toArray⟩,.bool m.keep],75)] (((w4.setCell ⟨P5,12,none⟩ (.string ⟨tpt.toArray⟩)).setCell ⟨P5,13,none⟩ (.string ⟨fpt.n.toArray⟩)).setCell ⟨P5,14,none⟩ (.string ⟨fpt.d.toArray⟩)) from by
    rw[hv1];exact((HP2.out.set 1 12 rfl (by decide) (by decide) (.string ⟨tpt.toArray⟩)).set 1 13 rfl (by decide) (by decide) (.string ⟨fpt.n.toArray⟩)).set 1 14 rfl (by decide) (by decide) (.string ⟨fpt.d.toArray⟩))
   go_upto_region 10 with (fail)
   clear f12 f13 f14 n12 n13 n14 HP2;generalize ((w4.setCell ⟨P5,12,none⟩ (.string ⟨tpt.toArray⟩)).setCell ⟨P5,13,none⟩ (.string ⟨fpt.n.toArray⟩)).setCell ⟨P5,14,none⟩ (.string ⟨fpt.d.toArray⟩)=W5 at*;have HSH:=jq (show ∀X,Pr w Ao k co old A1 c1 qs A2 c2 ks [(P10,#[.string ⟨fex.n.toArray⟩,.string ⟨fex.d.toArray⟩],26),(P5,QN v1,117),(w.1.size+1,#[.string ⟨#[]⟩,.int .i64 0,.string ⟨#[]⟩,.string ⟨#[]⟩,.string ⟨#[]⟩,.string ⟨#[]⟩,.string ⟨#[]⟩,.string ⟨#[]⟩,.string ⟨#[]⟩,.string ⟨#[]⟩,.bool false,.slice none 0 0,.string ⟨#[]⟩,.string ⟨#[]⟩,.string ⟨#[]⟩,.slice none 0 0,.slice none 0 0,.slice none 0 0,.slice none 0 0],117),(w.1.size,#[.string ⟨m.cause.toArray⟩,.int .i64 m.day,.string ⟨m.inst.toArray⟩,.string ⟨m.other.toArray⟩,.string ⟨m.ratio.n.toArray⟩,.string ⟨m.ratio.d.toArray⟩,.string ⟨m.share.n.toArray⟩,.string ⟨m.share.d.toArray⟩,.string ⟨m.price.n.toArray⟩,.string ⟨m.price.d.toArray⟩,.bool m.keep],75)] X->X.cell? ⟨w.1.size,6,none⟩=some (.string ⟨m.share.n.toArray⟩)/\X.cell? ⟨w.1.size,7,none⟩=some (.string ⟨m.share.d.toArray⟩) from fun X h=>⟨h.k.c 3 6 rfl rfl,h.k.c 3 7 rfl rfl⟩)
   go_cut [11] (fun t wc=>t=.string ⟨tmv.toArray⟩/\Hid (Pr w Ao k co old A1 c1 qs A2 c2 ks [(P10,#[.string ⟨fex.n.toArray⟩,.string ⟨fex.d.toArray⟩],26),(P5,QN v1,117),(w.1.size+1,#[.string ⟨#[]⟩,.int .i64 0,.string ⟨#[]⟩,.string ⟨#[]⟩,.string ⟨#[]⟩,.string ⟨#[]⟩,.string ⟨#[]⟩,.string ⟨#[]⟩,.string ⟨#[]⟩,.string ⟨#[]⟩,.bool false,.slice none 0 0,.string ⟨#[]⟩,.string ⟨#[]⟩,.string ⟨#[]⟩,.slice none 0 0,.slice none 0 0,.slice none 0 0,.slice none 0 0],117),(w.1.size,#[.string ⟨m.cause.toArray⟩,.int .i64 m.day,.string ⟨m.inst.toArray⟩,.string ⟨m.other.toArray⟩,.string ⟨m.ratio.n.toArray⟩,.string ⟨m.ratio.d.toArray⟩,.string ⟨m.share.n.toArray⟩,.string ⟨m.share.d.toArray⟩,.string ⟨m.price.n.toArray⟩,.string ⟨m.price.d.toArray⟩,.bool m.keep],75)] wc))
   case first=>
    obtain⟨s00,s01⟩:=HSH.out _ HP3.out
    go_region_held3 (fun X=>X.cell? ⟨w.1.size,6,none⟩=some (.string ⟨m.share.n.toArray⟩)/\X.cell? ⟨w.1.size,7,none⟩=some (.string ⟨m.share.d.toArray⟩))
     (first
       |with_reducible exact s4
       |with_reducible exact s3
       |with_reducible exact s2
       |with_reducible exact s1
       |go_keep)
     (first
       |(go_at_call 70;refine(HC.out.c5 _ _ _ HP3.out.drew.k.pw (HP3.out.drew.c.sl XW)).mono ?_;rintro e y1 ⟨rfl,hy⟩
         have g1:=HP3.out.drew.here hy;have s1:=HSH.out _ g1)
       |(go_at_call 19;refine(HC.out.c6 _ g1.k.pw).mono ?_;rintro e y2 ⟨rfl,hy⟩
         have g2:=g1.here hy;have s2:=HSH.out _ g2)
       |(go_at_call 42;refine(HC.out.c7 _ g2.k.pw).mono ?_;rintro e y3 ⟨rfl,hy⟩
         have g3:=g2.here hy;have s3:=HSH.out _ g3)
       |(go_at_call 104;refine(HC.out.c8 _ g3.k.pw).mono ?_;rintro e y4 ⟨rfl,hy⟩
         have g4:=g3.here hy;have s4:=HSH.out _ g4))
    all_goals
     go_wp2_with fail
     go_meet
     exact⟨rfl,g4⟩
   case rest=>
   obtain⟨rfl,HP4⟩:=hcut
   clear HP3 HSH;have e12:(QN v1)[12]?=some (.string ⟨tpt.toArray⟩):=by rw[hv1];rfl
   have c12:=HP4.out.k.c 1 12 rfl e12;have HV1:=jq hv1;clear hv1;go_wp2_with fail
   refine(HC.out.c9 _ _ _ HP4.out.k.pw (HP4.out.q.sl XW)).mono ?_;rintro e w6 ⟨Pn,rfl,hBn,hln,hb6⟩;have HP5:=jq (HP4.out.add hb6 Pn hln hBn);clear hBn hln hb6 HP4 c12;go_wp2_with fail
   refine(HC.out.c10 _ _ _ HP5.out.k.pw (HP5.out.c.sl XW)).mono ?_;rintro e w7 ⟨Pm,rfl,hBm,hlm,hb7⟩;have HP6:=jq (HP5.out.add hb7 Pm hlm hBm);clear hBm hlm hb7 HP5;have e15:(QN v1)[15]?=some (.slice none 0 0):=by rw[HV1.out];rfl
   have e16:(QN v1)[16]?=some (.slice none 0 0):=by rw[HV1.out];rfl
   have f15:=HP6.out.k.f 3 15 rfl;have f16:=HP6.out.k.f 3 16 rfl;have n15:=HP6.out.k.c 3 15 rfl e15;have n16:=HP6.out.k.c 3 16 rfl e16;obtain⟨v2,hv2⟩:∃v2:PlV,v2={v1 with n:=.slice (some ⟨Pn,0,none⟩) k k,q:=.slice (some ⟨Pm,0,none⟩) k k}:=⟨_,rfl⟩
   have HP7:=jq (show Pr w Ao k co old A1 c1 qs A2 c2 ks [(Pm,Qj x.m k k,24),(Pn,Qj x.n k k,24),(P10,#[.string ⟨fex.n.toArray⟩,.string ⟨fex.d.toArray⟩],26),(P5,QN v2,117),(w.1.size+1,#[.string ⟨#[]⟩,.int .i64 0,.string ⟨#[]⟩,.string ⟨#[]⟩,.string ⟨#[]⟩,.string ⟨#[]⟩,.string ⟨#[]⟩,.string ⟨#[]⟩,.string ⟨#[]⟩,.string ⟨#[]⟩,.bool false,.slice none 0 0,.string ⟨#[]⟩,.string ⟨#[]⟩,.string ⟨#[]⟩,.slice none 0 0,.slice none 0 0,.slice none 0 0,.slice none 0 0],117),(w.1.size,#[.string ⟨m.cause.toArray⟩,.int .i64 m.day,.string ⟨m.inst.toArray⟩,.string ⟨m.other.toArray⟩,.string ⟨m.ratio.n.toArray⟩,.string ⟨m.ratio.d.toArray⟩,.string ⟨m.share.n.toArray⟩,.string ⟨m.share.d.toArray⟩,.string ⟨m.price.n.toArray⟩,.string ⟨m.price.d.toArray⟩,.bool m.keep],75)] ((w7.setCell ⟨P5,15,none⟩ (.slice (some ⟨Pn,0,none⟩) k k)).setCell ⟨P5,16,none⟩ (.slice (some ⟨Pm,0,none⟩) k k)) from by
    rw[hv2];exact(HP6.out.set 3 15 rfl (by decide) (by decide) (.slice (some ⟨Pn,0,none⟩) k k)).set 3 16 rfl (by decide) (by decide) (.slice (some ⟨Pm,0,none⟩) k k))
   go_upto_region 12 with (fail)
   clear f15 f16 n15 n16 e15 e16 e12 HP6;generalize (w7.setCell ⟨P5,15,none⟩ (.slice (some ⟨Pn,0,none⟩) k k)).setCell ⟨P5,16,none⟩ (.slice (some ⟨Pm,0,none⟩) k k)=W8 at*;have HE2:=jq (show(QN v2)[16]?=some (.slice (some ⟨Pm,0,none⟩) k k)/\(QN v2)[17]?=some (.slice none 0 0)/\(QN v2)[18]?=some (.slice none 0 0)/\v2.parts=tpt/\v2.part=fpt from by rw[hv2,HV1.out];exact⟨rfl,rfl,rfl,rfl,rfl⟩);have HV2:=jq hv2;clear hv2
   have HFR:=jq (show ∀X,Pr w Ao k co old A1 c1 qs A2 c2 ks [(Pm,Qj x.m k k,24),(Pn,Qj x.n k k,24),(P10,#[.string ⟨fex.n.toArray⟩,.string ⟨fex.d.toArray⟩],26),(P5,QN v2,117),(w.1.size+1,#[.string ⟨#[]⟩,.int .i64 0,.string ⟨#[]⟩,.string ⟨#[]⟩,.string ⟨#[]⟩,.string ⟨#[]⟩,.string ⟨#[]⟩,.string ⟨#[]⟩,.string ⟨#[]⟩,.string ⟨#[]⟩,.bool false,.slice none 0 0,.string ⟨#[]⟩,.string ⟨#[]⟩,.string ⟨#[]⟩,.slice none 0 0,.slice none 0 0,.slice none 0 0,.slice none 0 0],117),(w.1.size,#[.string ⟨m.cause.toArray⟩,.int .i64 m.day,.string ⟨m.inst.toArray⟩,.string ⟨m.other.toArray⟩,.string ⟨m.ratio.n.toArray⟩,.string ⟨m.ratio.d.toArray⟩,.string ⟨m.share.n.toArray⟩,.string ⟨m.share.d.toArray⟩,.string ⟨m.price.n.toArray⟩,.string ⟨m.price.d.toArray⟩,.bool m.keep],75)] X->X.cell? ⟨P10,0,none⟩=some (.string ⟨fex.n.toArray⟩)/\X.cell? ⟨P10,1,none⟩=some (.string ⟨fex.d.toArray⟩)/\X.cell? ⟨P5,16,none⟩=some (.slice (some ⟨Pm,0,none⟩) k k) from fun X h=>
    ⟨h.k.c 2 0 rfl rfl,h.k.c 2 1 rfl rfl,h.k.c 3 16 rfl HE2.out.1⟩)
   have HFR2:=jq (show ∀X Pf,Pr w Ao k co old A1 c1 qs A2 c2 ks [(Pf,Qj x.f k k,24),(Pm,Qj x.m k k,24),(Pn,Qj x.n k k,24),(P10,#[.string ⟨fex.n.toArray⟩,.string ⟨fex.d.toArray⟩],26),(P5,(QN v2).setIfInBounds 17 (.slice (some ⟨Pf,0,none⟩) k k),117),(w.1.size+1,#[.string ⟨#[]⟩,.int .i64 0,.string ⟨#[]⟩,.string ⟨#[]⟩,.string ⟨#[]⟩,.string ⟨#[]⟩,.string ⟨#[]⟩,.string ⟨#[]⟩,.string ⟨#[]⟩,.string ⟨#[]⟩,.bool false,.slice none 0 0,.string ⟨#[]⟩,.string ⟨#[]⟩,.string ⟨#[]⟩,.slice none 0 0,.slice none 0 0,.slice none 0 0,.slice none 0 0],117),(w.1.size,#[.string ⟨m.cause.toArray⟩,.int .i64 m.day,.string ⟨m.inst.toArray⟩,.string ⟨m.other.toArray⟩,.string ⟨m.ratio.n.toArray⟩,.string ⟨m.ratio.d.toArray⟩,.string ⟨m.share.n.toArray⟩,.string ⟨m.share.d.toArray⟩,.string ⟨m.price.n.toArray⟩,.string ⟨m.price.d.toArray⟩,.bool m.keep],75)] X->X.cell? ⟨P10,0,none⟩=some (.string ⟨fex.n.toArray⟩)/\X.cell? ⟨P10,1,none⟩=some (.string ⟨fex.d.toArray⟩)/\X.cell? ⟨P5,16,none⟩=some (.slice (some ⟨Pm,0,none⟩) k k) from fun X Pf h=>
    ⟨h.k.c 3 0 rfl rfl,h.k.c 3 1 rfl rfl,h.k.c 4 16 rfl HE2.out.1⟩)
   obtain⟨v3,hv3⟩:∃v3:Nat->PlV,v3=fun Pf=>{v2 with f:=.slice (some ⟨Pf,0,none⟩) k k}:=⟨_,rfl⟩
   go_cut [] (fun wc=>∃Pf,Hid (Pr w Ao k co old A1 c1 qs A2 c2 ks [(Pf,Qj x.f k k,24),(Pm,Qj x.m k k,24),(Pn,Qj x.n k k,24),(P10,#[.string ⟨fex.n.toArray⟩,.string ⟨fex.d.toArray⟩],26),(P5,QN (v3 Pf),117),(w.1.size+1,#[.string ⟨#[]⟩,.int .i64 0,.string ⟨#[]⟩,.string ⟨#[]⟩,.string ⟨#[]⟩,.string ⟨#[]⟩,.string ⟨#[]⟩,.string ⟨#[]⟩,.string ⟨#[]⟩,.string ⟨#[]⟩,.bool false,.slice none 0 0,.string ⟨#[]⟩,.string ⟨#[]⟩,.string ⟨#[]⟩,.slice none 0 0,.slice none 0 0,.slice none 0 0,.slice none 0 0],117),(w.1.size,#[.string ⟨m.cause.toArray⟩,.int .i64 m.day,.string ⟨m.inst.toArray⟩,.string ⟨m.other.toArray⟩,.string ⟨m.ratio.n.toArray⟩,.string ⟨m.ratio.d.toArray⟩,.string ⟨m.share.n.toArray⟩,.string ⟨m.share.d.toArray⟩,.string ⟨m.price.n.toArray⟩,.string ⟨m.price.d.toArray⟩,.bool m.keep],75)] wc))
   case first=>
    obtain⟨s00,s01,s02⟩:=HFR.out _ HP7.out
    have hd:=HFR.out _ HP7.out.drew;have hld0:=XO (HP7.out.drew.k.at_ 3 rfl) (Vs v2)
    go_region_with
     (first
       |(go_at_call 106;refine(HC.out.c11 _ v2 HP7.out.drew.k.pw HE2.out.2.2.2.1 HE2.out.2.2.2.2).mono ?_;rintro e y1 ⟨rfl,hy⟩
         have g1:=HP7.out.drew.here hy;have s1:=HFR.out _ g1)
       |(go_at_call 105;refine(HC.out.c12 _ _ g1.k.pw (g1.k.at_ 0 rfl)).mono ?_;rintro e y2 ⟨Pf,rfl,hBf,hlf,hy2⟩
         have g2:=g1.add hy2 Pf hlf hBf;have s2:=HFR.out _ (g1.here hy2);have f17:=g2.k.f 4 17 rfl;have n17:=g2.k.c 4 17 rfl HE2.out.2.1;have s3:=HFR2.out _ _ (g2.set 4 17 rfl (by decide) (by decide) (.slice (some ⟨Pf,0,none⟩) k k));clear hBf hlf))
    all_goals
     go_wp2_with fail
     go_meet
     refine⟨Pf,?_⟩
     show Pr w Ao k co old A1 c1 qs A2 c2 ks [(Pf,Qj x.f k k,24),(Pm,Qj x.m k k,24),(Pn,Qj x.n k k,24),(P10,#[.string ⟨fex.n.toArray⟩,.string ⟨fex.d.toArray⟩],26),(P5,QN (v3 Pf),117),(w.1.size+1,#[.string ⟨#[]⟩,.int .i64 0,.string ⟨#[]⟩,.string ⟨#[]⟩,.string ⟨#[]⟩,.string ⟨#[]⟩,.string ⟨#[]⟩,.string ⟨#[]⟩,.string ⟨#[]⟩,.string ⟨#[]⟩,.bool false,.slice none 0 0,.string ⟨#[]⟩,.string ⟨#[]⟩,.string ⟨#[]⟩,.slice none 0 0,.slice none 0 0,.slice none 0 0,.slice none 0 0],117),(w.1.size,#[.string ⟨m.cause.toArray⟩,.int .i64 m.day,.string ⟨m.inst.toArray⟩,.string ⟨m.other.toArray⟩,.string ⟨m.ratio.n.toArray⟩,.string ⟨m.ratio.d.toArray⟩,.string ⟨m.share.n.toArray⟩,.string ⟨m.share.d.toArray⟩,.string ⟨m.price.n.toArray⟩,.string ⟨m.price.d.toArray⟩,.bool m.keep],75)] _
     rw[hv3];exact g2.set 4 17 rfl (by decide) (by decide) (.slice (some ⟨Pf,0,none⟩) k k)
   case rest=>
   obtain⟨Pf,HP8⟩:=hcut
   have hfp:(v3 Pf).part=fpt:=by rw[hv3];exact HE2.out.2.2.2.2
   have HE3:=jq (show(QN (v3 Pf))[13]?=some (.string ⟨fpt.n.toArray⟩)/\(QN (v3 Pf))[14]?=some (.string ⟨fpt.d.toArray⟩)/\(QN (v3 Pf))[18]?=some (.slice none 0 0) from by rw[<-hfp];exact⟨rfl,rfl,by rw[hv3];exact HE2.out.2.2.1⟩);have HV3:=jq (show v3 Pf={v2 with f:=.slice (some ⟨Pf,0,none⟩) k k} by rw[hv3]);generalize v3 Pf=v3' at*;clear hv3 hfp HP7 HFR;have c13:=HP8.out.k.c 4 13 rfl HE3.out.1;have c14:=HP8.out.k.c 4 14 rfl HE3.out.2.1;have p8:=HP8.out.k.c 6 8 rfl rfl;have p9:=HP8.out.k.c 6 9 rfl rfl;go_wp2_with fail
   refine(HC.out.c13 _ HP8.out.k.pw).mono ?_;rintro e w9 ⟨rfl,hb9⟩;have HP9:=jq (HP8.out.here hb9);clear c13 c14 p8 p9 hb9 HP8;go_wp2_with fail
   refine(HC.out.c14 _ HP9.out.k.pw).mono ?_;rintro e wa ⟨rfl,hba⟩;have HPa:=jq (HP9.out.here hba);clear hba HP9;go_wp2_with fail
   refine(HC.out.c15 _ _ _ HPa.out.k.pw (HPa.out.q.sl XW)).mono ?_;rintro e wb ⟨Pp,rfl,hBp,hlp,hbb⟩;have HPb:=jq (HPa.out.add hbb Pp hlp hBp);clear hBp hlp hbb HPa;have f18:=HPb.out.k.f 5 18 rfl;have n18:=HPb.out.k.c 5 18 rfl HE3.out.2.2;obtain⟨v4,hv4⟩:∃v4:PlV,v4={v3' with p:=.slice (some ⟨Pp,0,none⟩) k k}:=⟨_,rfl⟩
   have HPc:=jq (show Pr w Ao k co old A1 c1 qs A2 c2 ks [(Pp,Qj x.p k k,24),(Pf,Qj x.f k k,24),(Pm,Qj x.m k k,24),(Pn,Qj x.n k k,24),(P10,#[.string ⟨fex.n.toArray⟩,.string ⟨fex.d.toArray⟩],26),(P5,QN v4,117),(w.1.size+1,#[.string ⟨#[]⟩,.int .i64 0,.string ⟨#[]⟩,.string ⟨#[]⟩,.string ⟨#[]⟩,.string ⟨#[]⟩,.string ⟨#[]⟩,.string ⟨#[]⟩,.string ⟨#[]⟩,.string ⟨#[]⟩,.bool false,.slice none 0 0,.string ⟨#[]⟩,.string ⟨#[]⟩,.string ⟨#[]⟩,.slice none 0 0,.slice none 0 0,.slice none 0 0,.slice none 0 0],117),(w.1.size,#[.string ⟨m.cause.toArray⟩,.int .i64 m.day,.string ⟨m.inst.toArray⟩,.string ⟨m.other.toArray⟩,.string ⟨m.ratio.n.toArray⟩,.string ⟨m.ratio.d.toArray⟩,.string ⟨m.share.n.toArray⟩,.string ⟨m.share.d.toArray⟩,.string ⟨m.price.n.toArray⟩,.string ⟨m.price.d.toArray⟩,.bool m.keep],75)] (wb.setCell ⟨P5,18,none⟩ (.slice (some ⟨Pp,0,none⟩) k k)) from by
    rw[hv4];exact HPb.out.set 5 18 rfl (by decide) (by decide) (.slice (some ⟨Pp,0,none⟩) k k))
   have hld:=XO (HPc.out.k.at_ 5 rfl) (Vs v4);have hst:=ZbF (HPc.out.k.at_ 6 rfl) (show _=19 from rfl) (Vs v4) (ZaT v4 (by rw[hv4,HV3.out,HV2.out];rfl) (by rw[hv4,HV3.out,HV2.out];rfl) (by rw[hv4,HV3.out,HV2.out];rfl) (by rw[hv4,HV3.out,HV2.out];rfl));have HPd:=jq (HPc.out.row 6 rfl (by decide) (by decide) (QN v4));have hl4:=XO (HPd.out.k.at_ 6 rfl) (Vs v4);have HV4:=jq hv4;clear hv4;generalize hpb:QN v4=pb at*;go_wp2_with fail
   refine bodyPost_ret (v:=.agg pb) ((results_cell_row rfl _ _ (w.1.size+1) 117 pb (0,0) _ rfl (HPd.out.k.at_ 6 rfl) Tryz.underlying117 rfl (by rw[<-hpb,Vs v4];kernel_rfl))) rfl ?_;rw[HPO.out];refine⟨v4,Pn,Pm,Pf,Pp,by rw[hpb],by rw[HV4.out,HV3.out,HV2.out,HV1.out];rfl,?_,HPd.out.k.bl⟩;have hon:v4.on=k:=by rw[HV4.out,HV3.out,HV2.out,HV1.out];rfl
   refine⟨by rw[hon];exact HNN.out,?_,by rw[<-HPT.out,HV4.out,HV3.out,HV2.out,HV1.out],by rw[<-HFP.out,HV4.out,HV3.out,HV2.out,HV1.out],by rw[hon,HV4.out,HV3.out,HV2.out],by rw[hon,HV4.out,HV3.out,HV2.out],by rw[hon,HV4.out,HV3.out],by rw[hon,HV4.out],?_,?_,?_,?_,HPd.out.k.lt 3 rfl,HPd.out.k.lt 2 rfl,HPd.out.k.lt 1 rfl,HPd.out.k.lt 0 rfl⟩
   ·rw[hon,show v4.oA=Ao by rw[HV4.out,HV3.out,HV2.out,HV1.out];rfl];exact HPd.out.o.sl Ql
   ·rw[hon];exact HPd.out.k.at_ 3 rfl
   ·rw[hon];exact HPd.out.k.at_ 2 rfl
   ·rw[hon];exact HPd.out.k.at_ 1 rfl
   ·rw[hon];exact HPd.out.k.at_ 0 rfl
end
section
attribute [local go_sem ↓] Go.wp_at_zero Go.wp_at_succ VQ ZcU
def VB(ls:List Lot)(m:Mp):List UInt8×Int:=
 if Xm ls=0/\mpC m=0 then(Qa (Qe (Qb ls m.inst) m).p.sum,0) else([],1)
def ZbH(r:List UInt8×Int)(w:World)(e:Ending)(w':World):Prop:=e=.returned (.tuple #[S r.1,.int .i64 r.2])/\Below w.1.size w w'
theorem ZhJ(W:World)(v:PlV):(Instr.field 117 (.agg (QN v)) 7).run Tryz.prog W=.ok v.p W:=by kernel_rfl
theorem ZlE{l:List Int}{K:Nat}(h:∀i,(l.getD i 0).natAbs<10^K):∀t∈l.map Qa,t.length<=K+1:=by
 intro t ht;obtain⟨z,hz,rfl⟩:=List.mem_map.1 ht
 obtain⟨i,hi⟩:=List.getElem?_of_mem hz
 have:=h i
 rw[Xt hi] at this;exact Qd this
theorem ZlF(A:Option Addr)(n c:Nat)(ls:List Lot)(m:Mp)(w:World)(L:Nat)(hp:Env w)(hs:Xg w w.1.size A n ls)(hn:n<=9999)(hl:∀y∈ls,y.Sz 50000)(hm:m.Sz 5000\/m.Bad)
 (hL:L<=100) (hL1:1<=L) (hq:∀y∈ls,y.q.length<=L) (hc:∀y∈ls,y.c.length<=L) (hr:m.ratio.Sz L) (hsh:m.share.Sz L) (hpr:m.price.Sz L):
 Calls Tryz.prog 30 #[.slice A n c,MpV m] w (ZbH (VB ls m) w):=by
 have HPO:=jq (show ZbH (VB ls m) w=fun e w'=>e=.returned (.tuple #[S (VB ls m).1,.int .i64 (VB ls m).2])/\Below w.1.size w w' from rfl);generalize ZbH (VB ls m) w=post at*;have HVA:=jq (fun W (hb:Below w.1.size w W)=>Zch A n c ls m W (hp.here hb) (hs.here hb) hl hm (by omega));have HK0:=jq ((Kp.start hp).new w.1.size rfl (mpA m).toArray 75);rw[YG] at HK0;unfold MpV;rw[YG];unfold MpV at HVA;rw[YG] at HVA;obtain⟨z0,z1,z2,z3,z4,z5,z6,z7,z8,z9,z10⟩:=ZcH HK0.out (m:=m) (i:=0) rfl
 by_cases hv:Xm ls=0/\mpC m=0
 ·have hlok:=(Yd ls).1 hv.1;have hmok:=(VU m).1 hv.2;have HMV:=jq (show VB ls m=(Qa (Qe (Qb ls m.inst) m).p.sum,0) from if_pos hv);rw[decide_eq_true hv.1,decide_eq_true hv.2] at HVA;have HPR:=jq (fun W (hb:Below w.1.size w W)=>Zaw A n c ls m W L (hp.here hb) (hs.here hb) hlok hmok hL hL1 hq hc hr hsh hpr);unfold MpV at HPR;rw[YG] at HPR;have hlo:(Qb ls m.inst).length<=1000:=Nat.le_trans (XI ls m.inst) hlok.len;have hplk:=ZaS (Qz hlok m.inst) hmok hlo hL1 (fun y hy=>hq y (List.mem_filter.1 hy).1) (fun y hy=>hc y (List.mem_filter.1 hy).1) hr hpr;obtain⟨l1,l2,l3,l4⟩:=QB (Qb ls m.inst) m
  have HPK:=jq hplk;have HL4:=jq l4;have HLO:=jq hlo;have HLL:=jq hL;generalize VB ls m=mv at*;clear hp hs hn hl hm hq hc hr hsh hpr hL hL1 hv hlok hmok hplk l1 l2 l3 l4 hlo;unfold S at*
  go_enter Tryz.func30,Tryz.ntmps30
  go_wp2_with fail
  generalize w.alloc _=W0 at*;refine(HVA.out _ HK0.out.bl).mono ?_;rintro e w1 ⟨rfl,hb1⟩;have HK1:=jq (HK0.out.here hb1);clear hb1 HK0 HVA z0 z1 z2 z3 z4 z5 z6 z7 z8 z9 z10;obtain⟨z0,z1,z2,z3,z4,z5,z6,z7,z8,z9,z10⟩:=ZcH HK1.out (m:=m) (i:=0) rfl
  go_wp2_with fail
  refine(HPR.out _ HK1.out.bl).mono ?_;rintro e w2 ⟨v,pn,pm,pf,pp,rfl,hvm,hM,hb2⟩;have HK2:=jq (HK1.out.here hb2);have hfl:=ZhJ w2 v;rw[hM.ep] at hfl
  have HSA:=jq (show Calls Tryz.prog 70 #[.slice (some ⟨pp,0,none⟩) v.on v.on] w2 fun e w'=>e=.returned (.string ⟨(Qa (Qe (Qb ls m.inst) m).p.sum).toArray⟩)/\Below w2.1.size w2 w' from by
   have h:=Zav (some ⟨pp,0,none⟩) v.on v.on ((Qe (Qb ls m.inst) m).p.map Qa) w2 HK2.out.pw (JM hM.bp (by rw[HL4.out];exact hM.len.symm)) (fun t ht=>Nat.le_trans (ZlE HPK.out.p t ht) (by have:=HLL.out;omega)) (by rw[hM.len];have:=HLO.out;omega);rw[ZdP] at h;exact h)
  clear z0 z1 z2 z3 z4 z5 z6 z7 z8 z9 z10 hM hb2 HK1 HPR hvm HPK HL4 HLO HLL;generalize QN v=pb at*;generalize v.on=N at*;generalize Qa (Qe (Qb ls m.inst) m).p.sum=tp at*;go_wp2_with fail
  refine HSA.out.mono ?_;rintro e w3 ⟨rfl,hb3⟩;clear hfl HSA;go_wp2_with fail
  first|go_ret|skip
  rw[HPO.out,HMV.out];exact⟨rfl,(HK2.out.here hb3).bl⟩
 ·have HMV:=jq (show VB ls m=([],1) from if_neg hv)
  have hvb:(decide (Xm ls=0)&&decide (mpC m=0))=false:=by
   by_cases h1:Xm ls=0
   ·rw[decide_eq_true h1,decide_eq_false (fun h2=>hv ⟨h1,h2⟩)];rfl
   ·rw[decide_eq_false h1];rfl
  rw[hvb] at HVA;generalize VB ls m=mv at*;clear hp hs hn hl hm hq hc hr hsh hpr hL hL1 hv hvb;unfold S at*
  go_enter Tryz.func30,Tryz.ntmps30
  go_wp2_with fail
  generalize w.alloc _=W0 at*;refine(HVA.out _ HK0.out.bl).mono ?_;rintro e w1 ⟨rfl,hb1⟩;go_wp2_with fail
  first|go_ret|skip
  rw[HPO.out,HMV.out];exact⟨rfl,(HK0.out.here hb1).bl⟩
end
section
def Zbh(l:List Gain):Int:=(l.map (fun g=>val g.proceeds)).sum
def ZdQ(ls:List Lot)(m:Mp):Rat:=((JT (Qb ls m.inst):Int):Rat)*m.ratio.rat-((QA (((JT (Qb ls m.inst):Int):Rat)*m.ratio.rat):Int):Rat)
theorem ZlG{m:Mp}{x:Plan}{old:List Lot}{g:Gain}(h:g∈Xz m x old):g.cause=m.cause/\g.closed=m.day/\g.inst=m.other/\g.q=[]/\g.deferred=[]:=by
 unfold Xz at h
 split at h
 ·cases h
 ·unfold QZ at h;obtain⟨k,_,hk⟩:=List.mem_filterMap.1 h
  cases hy:old[k]? with
  |none=>rw[hy] at hk;cases hk
  |some y=>
   rw[hy] at hk
   dsimp only at hk
   by_cases hc:x.p.getD k 0=0/\x.f.getD k 0=0
   ·rw[if_pos hc] at hk;cases hk
   ·rw[if_neg hc] at hk;obtain rfl:=Option.some.inj hk;exact⟨rfl,rfl,rfl,rfl,rfl⟩
theorem ZhM(old:List Lot)(m:Mp):(Qe old m).cash=rnd ((Qe old m).part*m.price.rat):=rfl
theorem ZdR(ls:List Lot)(m:Mp):(Qe (Qb ls m.inst) m).part=ZdQ ls m:=rfl
theorem ZdS{ls:List Lot}{m:Mp}(h0:(QQ ls m).2=0):
 VB ls m=(Qa (rnd (ZdQ ls m*m.price.rat)),0)/\Zbh (QQ ls m).1.gains=rnd (ZdQ ls m*m.price.rat)/\(ZdQ ls m=0->(QQ ls m).1.gains.length=0)/\
 ∀g∈(QQ ls m).1.gains,g.cause=m.cause/\g.closed=m.day/\g.inst=m.other/\g.q=[]/\g.deferred=[]:=by
 obtain⟨hl,hm⟩:=Zhw h0
 have hc:VB ls m=(Qa (Qe (Qb ls m.inst) m).p.sum,0):=if_pos ⟨(Yd ls).2 hl,(VU m).2 hm⟩;rw[hc]
 rcases XE ls m with ⟨e,he,h'⟩|⟨hl',hm',ho',h'⟩|⟨A,B,hM,h'⟩
 ·rw[h'] at h0;exact absurd h0 he
 ·have h1:ZdQ ls m=0:=by
   unfold ZdQ;rw[ho',show(((JT ([]:List Lot):Int)):Rat)=0 from rfl,Rat.zero_mul,show QA (0:Rat)=0 from Zim 0]
   show(0:Rat)-(0:Rat)=0
   first|decide|exact Rat.sub_self|exact Rat.sub_self _|rfl
  have h2:rnd (ZdQ ls m*m.price.rat)=0:=by rw[h1,Rat.zero_mul];rfl
  rw[h2,h',ho'];refine⟨?_,rfl,fun _=>rfl,fun g hg=>by cases hg⟩;have h3:=(QB ([]:List Lot) m).2.2.2;rw[List.length_eq_zero_iff.1 h3];rfl
 ·obtain⟨s1,s2,s3,s4,s5⟩:=Xu (Qz hM.ok m.inst) hM.mp hM.old
  rw[h',s4,ZhM,ZdR];refine⟨rfl,?_,fun h=> ?_,fun g hg=>ZlG hg⟩
  ·show((Xz m (plO ls m) (Zhu ls m)).map (fun g=>val g.proceeds)).sum=_
   rw[hM.gains.2];rfl
  ·show(Xz m (Qe (Qb ls m.inst) m) (Qb ls m.inst)).length=0
   unfold Xz;rw[if_pos (by rw[ZdR];exact h)];rfl
end
end Go.Proofs.YtmamnnaiogidaaaGreatDoor
