/- . -/
import Derived.Test.YtpnncoinlopndaaGreatDoorQGMp36
import Derived.Test.YtpnncoinlopndaaGreatDoorQGMp16
set_option maxRecDepth 100000
set_option maxHeartbeats 8000000
namespace Go.Proofs.YtpnncoinlopndaaGreatDoor
open Go.Lib renaming hid→jq
section
open Go.RowKit Go.Shelf
attribute [local go_sem ↓] Go.wp_at_zero Go.wp_at_succ
def Zft(ls:List Lot)(n:Nat)(w:World)(e:Ending)(w':World):Prop:=
 ∃A1 c1 A2 c2,e=.returned (.tuple #[.slice A1 n c1,.slice A2 n c2])/\Own S1 1 24 w' w.1.size (.slice A1 n c1) (ls.map (·.q))/\Own S1 1 24 w' w.1.size (.slice A2 n c2) (ls.map (·.c))/\Below w.1.size w w'
theorem Zee(A:Option Addr)(n c:Nat)(ls:List Lot)(w:World)(hs:QU w w.1.size A n ls)(hn:n<=1000):
 Calls Tryz.prog 68 #[.slice A n c] w (Zft ls n w):=by
 have HPO:=jq (show Zft ls n w=fun e w'=>∃A1 c1 A2 c2,e=.returned (.tuple #[.slice A1 n c1,.slice A2 n c2])/\Own S1 1 24 w' w.1.size (.slice A1 n c1) (ls.map (·.q))/\Own S1 1 24 w' w.1.size (.slice A2 n c2) (ls.map (·.c))/\Below w.1.size w w' from rfl);generalize Zft ls n w=post at*;have HS:=jq hs;have HNN:=jq hs.1;clear hs;go_enter Tryz.func68,Tryz.ntmps68
 go_wp2_with fail
 go_loopw [4,5,6] (fun s t j wr=>∃(k:Nat) (A1:Option Addr) (c1:Nat) (A2:Option Addr) (c2:Nat),k<=n/\j=.int .i64 k/\s=.slice A1 ((ls.take k).map (·.q)).length c1/\t=.slice A2 ((ls.take k).map (·.c)).length c2/\Hid (TwoO w.1.size w wr A1 ((ls.take k).map (·.q)).length c1 ((ls.take k).map (·.q)) A2 ((ls.take k).map (·.c)).length c2 ((ls.take k).map (·.c)))) (fun _ _ j _=>n-(intOf j).toNat)
 case atStart=>exact⟨0,none,0,none,0,Nat.zero_le _,rfl,rfl,rfl,TwoO.nil (Nat.le_refl _) (Below.refl _ _)⟩
 case round=>
  obtain⟨k,A1,c1,A2,c2,hk,rfl,rfl,rfl,HT⟩:=hrel
  by_cases hlt:k<n
  ·obtain⟨b,off,y,hAe,hb,hy,d0,d1,d2,d3,d4,d5,d6⟩:=(HS.out.below HT.out.bl).lot hlt
   have HTQ:=jq (show(ls.take (k+1)).map (·.q)=(ls.take k).map (·.q)++[y.q] by obtain⟨h1,h2⟩:=List.getElem?_eq_some_iff.1 hy;rw[List.take_succ_eq_append_getElem h1,h2,List.map_append];rfl);have HTC:=jq (show(ls.take (k+1)).map (·.c)=(ls.take k).map (·.c)++[y.c] by obtain⟨h1,h2⟩:=List.getElem?_eq_some_iff.1 hy;rw[List.take_succ_eq_append_getElem h1,h2,List.map_append];rfl);subst hAe
   have HL45:=jq (show ∀X,Below w.1.size w X->X.cell? ⟨b,off+k*7+4,none⟩=some (.string ⟨y.q.toArray⟩)/\X.cell? ⟨b,off+k*7+5,none⟩=some (.string ⟨y.c.toArray⟩) from fun X h=>by
    obtain⟨b2,off2,y2,hA2,_,hy2,_,_,_,_,e4,e5,_⟩:=(HS.out.below h).lot hlt
    injection hA2 with hA2;injection hA2 with h1 h2;subst h1;subst h2
    rw[hy] at hy2;injection hy2 with hy2;subst hy2;exact⟨e4,e5⟩)
   clear hy d0 d1 d2 d3 d4 d5 d6;generalize hqk:(ls.take k).map (·.q)=qk at*;generalize hck:(ls.take k).map (·.c)=ck at*
   have HLQ:=jq (show qk.length=k/\ck.length=k/\k<1000 by
    have h1:(ls.take k).length=k:=by rw[List.length_take,<-HNN.out];omega
    rw[<-hqk,<-hck,List.length_map,List.length_map];omega)
   clear hqk hck;have HO1:=jq (show ∀g,(Value.slice A1 qk.length c1).ownBlock=some g->g<wr.1.size from fun g hg=>(Zav HT.out.o1 hg).2);have HO2:=jq (show ∀g,(Value.slice A2 ck.length c2).ownBlock=some g->g<wr.1.size from fun g hg=>(Zav HT.out.o2 hg).2);have i1:(0:Int)<=(k:Int):=by omega
   have i2:(k:Int)<(n:Int):=by omega
   go_upto_region 5 with (fail)
   have T0:=HT.out;clear hb
   go_region_held3 (fun X=>X.cell? ⟨b,off+k*7+4,none⟩=some (.string ⟨y.q.toArray⟩)/\X.cell? ⟨b,off+k*7+5,none⟩=some (.string ⟨y.c.toArray⟩))
    (first
      |(refine HL45.out _ (TwoO.bl (base:=w.1.size) (W1:=w) (A1:=A1) (n1:=qk.length) (c1:=c1) (xs:=qk) (A2:=A2) (n2:=ck.length) (c2:=c2) (ys:=ck) ?_);((repeat (first|with_reducible assumption|with_reducible refine TwoO.drew' ?_|with_reducible refine TwoO.alloc ?_ _));done))
      |(refine HL45.out _ (TwoO.bl (base:=w.1.size) (W1:=w) (A1:=A1) (n1:=qk.length) (c1:=c1) (xs:=qk) (A2:=B2) (n2:=ck.length+1) (c2:=e2) (ys:=ck++[y.c]) ?_);((repeat (first|with_reducible assumption|with_reducible refine TwoO.drew' ?_|with_reducible refine TwoO.alloc ?_ _));done))
      |(refine HL45.out _ (TwoO.bl (base:=w.1.size) (W1:=w) (A1:=B1) (n1:=qk.length+1) (c1:=e1) (xs:=qk++[y.q]) (A2:=A2) (n2:=ck.length) (c2:=c2) (ys:=ck) ?_);((repeat (first|with_reducible assumption|with_reducible refine TwoO.drew' ?_|with_reducible refine TwoO.alloc ?_ _));done))
      |(refine HL45.out _ (TwoO.bl (base:=w.1.size) (W1:=w) (A1:=B1) (n1:=qk.length+1) (c1:=e1) (xs:=qk++[y.q]) (A2:=B2) (n2:=ck.length+1) (c2:=e2) (ys:=ck++[y.c]) ?_);((repeat (first|with_reducible assumption|with_reducible refine TwoO.drew' ?_|with_reducible refine TwoO.alloc ?_ _));done))
      |go_keep)
   (first
     |(refine XT _ (by rfl) (.tmp 13) (.tmp 19) _ (by rfl) Vd Xx VR (.slice A1 qk.length c1) qk (by rfl) (TwoO.o1 (base:=w.1.size) (W1:=w) (xs:=qk) (A2:=A2) (n2:=ck.length) (c2:=c2) (ys:=ck) ?_) _ _ 1 1 [y.q] (by rfl) (ZcC (T:=24) ?_) (by have:=HLQ.out;omega) (TwoO.hb (A1:=A1) (n1:=qk.length) (c1:=c1) (base:=w.1.size) (W1:=w) (xs:=qk) (A2:=A2) (n2:=ck.length) (c2:=c2) (ys:=ck) ?_) ?_
       focus ((repeat (first|with_reducible assumption|with_reducible refine TwoO.drew' ?_|with_reducible refine TwoO.alloc ?_ _));done)
       focus ((repeat (first|with_reducible assumption|with_reducible refine BlkB.drew' ?_|(refine BlkB.new' ?_;first|rfl|(simp;done))|with_reducible refine BlkB.alloc ?_ _));done)
       focus ((repeat (first|with_reducible assumption|with_reducible refine TwoO.drew' ?_|with_reducible refine TwoO.alloc ?_ _));done)
       intro B1 e1 X1 ho1 hg1 hat1;have T1:=TwoO.app1 (base:=w.1.size) (W1:=w) (xs:=qk) (A2:=A2) (n2:=ck.length) (c2:=c2) (ys:=ck) ?_ ho1 hg1 hat1
       first|(focus ((repeat (first|with_reducible assumption|with_reducible refine TwoO.drew' ?_|with_reducible refine TwoO.alloc ?_ _));done))|(rotate_left;focus ((repeat (first|with_reducible assumption|with_reducible refine TwoO.drew' ?_|with_reducible refine TwoO.alloc ?_ _));done))
       have hs1:=T1.hb;clear hat1 ho1
       first
        |(have bo1:BlkB X1 wr.1.size #[.string ⟨y.c.toArray⟩] 24:=BlkB.gr hg1 (fun e=>by have:=HO1.out _ e.symm;omega) ?_
          first|(focus ((repeat (first|with_reducible assumption|with_reducible refine BlkB.drew' ?_|(refine BlkB.new' ?_;first|rfl|(simp;done))|with_reducible refine BlkB.alloc ?_ _));done))|(rotate_left;focus ((repeat (first|with_reducible assumption|with_reducible refine BlkB.drew' ?_|(refine BlkB.new' ?_;first|rfl|(simp;done))|with_reducible refine BlkB.alloc ?_ _));done))
          clear hg1)
        |(have bo1:BlkB X1 (wr.1.size+1) #[.string ⟨y.c.toArray⟩] 24:=BlkB.gr hg1 (fun e=>by have:=HO1.out _ e.symm;omega) ?_
          first|(focus ((repeat (first|with_reducible assumption|with_reducible refine BlkB.drew' ?_|(refine BlkB.new' ?_;first|rfl|(simp;done))|with_reducible refine BlkB.alloc ?_ _));done))|(rotate_left;focus ((repeat (first|with_reducible assumption|with_reducible refine BlkB.drew' ?_|(refine BlkB.new' ?_;first|rfl|(simp;done))|with_reducible refine BlkB.alloc ?_ _));done))
          clear hg1)
        |clear hg1)
     |(refine XT _ (by rfl) (.tmp 13) (.tmp 19) _ (by rfl) Vd Xx VR (.slice A1 qk.length c1) qk (by rfl) (TwoO.o1 (base:=w.1.size) (W1:=w) (xs:=qk) (A2:=B2) (n2:=ck.length+1) (c2:=e2) (ys:=ck++[y.c]) ?_) _ _ 1 1 [y.q] (by rfl) (ZcC (T:=24) ?_) (by have:=HLQ.out;omega) (TwoO.hb (A1:=A1) (n1:=qk.length) (c1:=c1) (base:=w.1.size) (W1:=w) (xs:=qk) (A2:=B2) (n2:=ck.length+1) (c2:=e2) (ys:=ck++[y.c]) ?_) ?_
       focus ((repeat (first|with_reducible assumption|with_reducible refine TwoO.drew' ?_|with_reducible refine TwoO.alloc ?_ _));done)
       focus ((repeat (first|with_reducible assumption|with_reducible refine BlkB.drew' ?_|(refine BlkB.new' ?_;first|rfl|(simp;done))|with_reducible refine BlkB.alloc ?_ _));done)
       focus ((repeat (first|with_reducible assumption|with_reducible refine TwoO.drew' ?_|with_reducible refine TwoO.alloc ?_ _));done)
       intro B1 e1 X1 ho1 hg1 hat1;have T1:=TwoO.app1 (base:=w.1.size) (W1:=w) (xs:=qk) (A2:=B2) (n2:=ck.length+1) (c2:=e2) (ys:=ck++[y.c]) ?_ ho1 hg1 hat1
       first|(focus ((repeat (first|with_reducible assumption|with_reducible refine TwoO.drew' ?_|with_reducible refine TwoO.alloc ?_ _));done))|(rotate_left;focus ((repeat (first|with_reducible assumption|with_reducible refine TwoO.drew' ?_|with_reducible refine TwoO.alloc ?_ _));done))
       have hs1:=T1.hb;clear hat1 ho1
       first
        |(have bo1:BlkB X1 wr.1.size #[.string ⟨y.c.toArray⟩] 24:=BlkB.gr hg1 (fun e=>by have:=HO1.out _ e.symm;omega) ?_
          first|(focus ((repeat (first|with_reducible assumption|with_reducible refine BlkB.drew' ?_|(refine BlkB.new' ?_;first|rfl|(simp;done))|with_reducible refine BlkB.alloc ?_ _));done))|(rotate_left;focus ((repeat (first|with_reducible assumption|with_reducible refine BlkB.drew' ?_|(refine BlkB.new' ?_;first|rfl|(simp;done))|with_reducible refine BlkB.alloc ?_ _));done))
          clear hg1)
        |(have bo1:BlkB X1 (wr.1.size+1) #[.string ⟨y.c.toArray⟩] 24:=BlkB.gr hg1 (fun e=>by have:=HO1.out _ e.symm;omega) ?_
          first|(focus ((repeat (first|with_reducible assumption|with_reducible refine BlkB.drew' ?_|(refine BlkB.new' ?_;first|rfl|(simp;done))|with_reducible refine BlkB.alloc ?_ _));done))|(rotate_left;focus ((repeat (first|with_reducible assumption|with_reducible refine BlkB.drew' ?_|(refine BlkB.new' ?_;first|rfl|(simp;done))|with_reducible refine BlkB.alloc ?_ _));done))
          clear hg1)
        |clear hg1)
     |(refine XT _ (by rfl) (.tmp 21) (.tmp 27) _ (by rfl) Vd Xx VR (.slice A2 ck.length c2) ck (by rfl) (TwoO.o2 (base:=w.1.size) (W1:=w) (ys:=ck) (A1:=A1) (n1:=qk.length) (c1:=c1) (xs:=qk) ?_) _ _ 1 1 [y.c] (by rfl) (ZcC (T:=24) ?_) (by have:=HLQ.out;omega) (TwoO.hb (A2:=A2) (n2:=ck.length) (c2:=c2) (base:=w.1.size) (W1:=w) (ys:=ck) (A1:=A1) (n1:=qk.length) (c1:=c1) (xs:=qk) ?_) ?_
       focus ((repeat (first|with_reducible assumption|with_reducible refine TwoO.drew' ?_|with_reducible refine TwoO.alloc ?_ _));done)
       focus ((repeat (first|with_reducible assumption|with_reducible refine BlkB.drew' ?_|(refine BlkB.new' ?_;first|rfl|(simp;done))|with_reducible refine BlkB.alloc ?_ _));done)
       focus ((repeat (first|with_reducible assumption|with_reducible refine TwoO.drew' ?_|with_reducible refine TwoO.alloc ?_ _));done)
       intro B2 e2 X2 ho2 hg2 hat2;have T2:=TwoO.app2 (base:=w.1.size) (W1:=w) (ys:=ck) (A1:=A1) (n1:=qk.length) (c1:=c1) (xs:=qk) ?_ ho2 hg2 hat2
       first|(focus ((repeat (first|with_reducible assumption|with_reducible refine TwoO.drew' ?_|with_reducible refine TwoO.alloc ?_ _));done))|(rotate_left;focus ((repeat (first|with_reducible assumption|with_reducible refine TwoO.drew' ?_|with_reducible refine TwoO.alloc ?_ _));done))
       have hs2:=T2.hb;clear hat2 ho2
       first
        |(have bo2:BlkB X2 wr.1.size #[.string ⟨y.q.toArray⟩] 24:=BlkB.gr hg2 (fun e=>by have:=HO2.out _ e.symm;omega) ?_
          first|(focus ((repeat (first|with_reducible assumption|with_reducible refine BlkB.drew' ?_|(refine BlkB.new' ?_;first|rfl|(simp;done))|with_reducible refine BlkB.alloc ?_ _));done))|(rotate_left;focus ((repeat (first|with_reducible assumption|with_reducible refine BlkB.drew' ?_|(refine BlkB.new' ?_;first|rfl|(simp;done))|with_reducible refine BlkB.alloc ?_ _));done))
          clear hg2)
        |(have bo2:BlkB X2 (wr.1.size+1) #[.string ⟨y.q.toArray⟩] 24:=BlkB.gr hg2 (fun e=>by have:=HO2.out _ e.symm;omega) ?_
          first|(focus ((repeat (first|with_reducible assumption|with_reducible refine BlkB.drew' ?_|(refine BlkB.new' ?_;first|rfl|(simp;done))|with_reducible refine BlkB.alloc ?_ _));done))|(rotate_left;focus ((repeat (first|with_reducible assumption|with_reducible refine BlkB.drew' ?_|(refine BlkB.new' ?_;first|rfl|(simp;done))|with_reducible refine BlkB.alloc ?_ _));done))
          clear hg2)
        |clear hg2)
     |(refine XT _ (by rfl) (.tmp 21) (.tmp 27) _ (by rfl) Vd Xx VR (.slice A2 ck.length c2) ck (by rfl) (TwoO.o2 (base:=w.1.size) (W1:=w) (ys:=ck) (A1:=B1) (n1:=qk.length+1) (c1:=e1) (xs:=qk++[y.q]) ?_) _ _ 1 1 [y.c] (by rfl) (ZcC (T:=24) ?_) (by have:=HLQ.out;omega) (TwoO.hb (A2:=A2) (n2:=ck.length) (c2:=c2) (base:=w.1.size) (W1:=w) (ys:=ck) (A1:=B1) (n1:=qk.length+1) (c1:=e1) (xs:=qk++[y.q]) ?_) ?_
       focus ((repeat (first|with_reducible assumption|with_reducible refine TwoO.drew' ?_|with_reducible refine TwoO.alloc ?_ _));done)
       focus ((repeat (first|with_reducible assumption|with_reducible refine BlkB.drew' ?_|(refine BlkB.new' ?_;first|rfl|(simp;done))|with_reducible refine BlkB.alloc ?_ _));done)
       focus ((repeat (first|with_reducible assumption|with_reducible refine TwoO.drew' ?_|with_reducible refine TwoO.alloc ?_ _));done)
       intro B2 e2 X2 ho2 hg2 hat2;have T2:=TwoO.app2 (base:=w.1.size) (W1:=w) (ys:=ck) (A1:=B1) (n1:=qk.length+1) (c1:=e1) (xs:=qk++[y.q]) ?_ ho2 hg2 hat2
       first|(focus ((repeat (first|with_reducible assumption|with_reducible refine TwoO.drew' ?_|with_reducible refine TwoO.alloc ?_ _));done))|(rotate_left;focus ((repeat (first|with_reducible assumption|with_reducible refine TwoO.drew' ?_|with_reducible refine TwoO.alloc ?_ _));done))
       have hs2:=T2.hb;clear hat2 ho2
       first
        |(have bo2:BlkB X2 wr.1.size #[.string ⟨y.q.toArray⟩] 24:=BlkB.gr hg2 (fun e=>by have:=HO2.out _ e.symm;omega) ?_
          first|(focus ((repeat (first|with_reducible assumption|with_reducible refine BlkB.drew' ?_|(refine BlkB.new' ?_;first|rfl|(simp;done))|with_reducible refine BlkB.alloc ?_ _));done))|(rotate_left;focus ((repeat (first|with_reducible assumption|with_reducible refine BlkB.drew' ?_|(refine BlkB.new' ?_;first|rfl|(simp;done))|with_reducible refine BlkB.alloc ?_ _));done))
          clear hg2)
        |(have bo2:BlkB X2 (wr.1.size+1) #[.string ⟨y.q.toArray⟩] 24:=BlkB.gr hg2 (fun e=>by have:=HO2.out _ e.symm;omega) ?_
          first|(focus ((repeat (first|with_reducible assumption|with_reducible refine BlkB.drew' ?_|(refine BlkB.new' ?_;first|rfl|(simp;done))|with_reducible refine BlkB.alloc ?_ _));done))|(rotate_left;focus ((repeat (first|with_reducible assumption|with_reducible refine BlkB.drew' ?_|(refine BlkB.new' ?_;first|rfl|(simp;done))|with_reducible refine BlkB.alloc ?_ _));done))
          clear hg2)
        |clear hg2)
     |fail)
   all_goals
    go_wp2_with fail
    go_roundw
    case rel=>
     refine⟨k+1,B1,e1,B2,e2,by omega,by go_num,by rw[HTQ.out,List.length_append];rfl,by rw[HTC.out,List.length_append];rfl,?_⟩
     show TwoO _ _ _ _ _ _ _ _ _ _ _
     rw[HTQ.out,HTC.out,List.length_append,List.length_append]
     assumption
    case measure=>simp[intOf];omega
  ·obtain rfl:k=n:=by omega
   have HE:=jq (show ls.take k=ls by rw[List.take_of_length_le (by have:=HNN.out;omega)]);rw[HE.out] at HT;have h1:=HT.out.o1;have h2:=HT.out.o2;have HSL:=jq (And.intro h1 h2);have l1:(ls.map (·.q)).length=k:=by rw[List.length_map];exact HNN.out.symm
   have l2:(ls.map (·.c)).length=k:=by rw[List.length_map];exact HNN.out.symm
   rw[HE.out];rw[l1,l2];rw[l1,l2] at HSL;clear h1 h2 l1 l2;go_wp2_with fail
   first|go_ret2|skip
   rw[HPO.out];exact⟨A1,c1,A2,c2,rfl,HSL.out.1,HSL.out.2,HT.out.bl⟩
end
end Go.Proofs.YtpnncoinlopndaaGreatDoor
