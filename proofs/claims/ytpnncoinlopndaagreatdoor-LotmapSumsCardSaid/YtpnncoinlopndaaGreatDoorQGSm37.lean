/- St1, Kp3. -/
import Derived.Test.YtpnncoinlopndaaGreatDoorQGSm14
import Derived.Test.YtpnncoinlopndaaGreatDoorQGSm22
set_option maxRecDepth 100000
set_option maxHeartbeats 4000000
namespace Go.Proofs.YtpnncoinlopndaaGreatDoor
open Go.Lib renaming hid→hdz
section
open Go.RowKit Go.Shelf
def stpC(s:Stp):Array Value:=#[.string ⟨s.cause.toArray⟩,.string ⟨s.src.toArray⟩,.string ⟨s.dst.toArray⟩,.string ⟨s.q.toArray⟩,.string ⟨s.made.toArray⟩,.string ⟨s.cost.toArray⟩]
theorem Zm7(s:Stp):(stpC s).toList=[s].flatMap S6:=rfl
def StepPost(pO base:Nat)(A1:Option Addr)(n c1:Nat)(xs:List Stp)(W:World)(e:Ending)(w':World):Prop:=
 (∃v,e=.returned v)∧∃A2 c2,Box w' pO 32 (.slice A2 xs.length c2)∧Own S6 6 80 w' base (.slice A2 xs.length c2) xs∧w'.os=W.os∧w'.tape=W.tape∧w'.output=W.output∧W.heap.size≤w'.heap.size∧∀b,b<W.heap.size→b≠pO→some b≠(Value.slice A1 n c1).ownBlock→w'.heap[b]?=W.heap[b]?
theorem ZlQ{s:Stp}(h:¬(s.q=[]∧s.made=[]∧s.cost=[])):stp1 s=[s]:=if_neg h
theorem Zm8{s:Stp}(h:s.q=[]∧s.made=[]∧s.cost=[]):stp1 s=[]:=if_pos h
theorem Zh3(s:Stp)(pO base c1:Nat)(A1:Option Addr)(xs:List Stp)(W:World)(hB:Box W pO 32 (.slice A1 xs.length c1))(ho:Own S6 6 80 W base (.slice A1 xs.length c1) xs)(hl:xs.length≤100000)(hb:base≤W.heap.size):
 Calls Tryz.prog 82 (#[.agg (stpC s)]++#[.pointer (some ⟨pO,0,none⟩)]) W (StepPost pO base A1 xs.length c1 (xs++stp1 s) W):=by
 have HPO:=hdz (show StepPost pO base A1 xs.length c1 (xs++stp1 s) W=fun e w'=>(∃v,e=.returned v)∧∃A2 c2,Box w' pO 32 (.slice A2 (xs++stp1 s).length c2)∧Own S6 6 80 w' base (.slice A2 (xs++stp1 s).length c2) (xs++stp1 s)∧w'.os=W.os∧w'.tape=W.tape∧w'.output=W.output∧W.heap.size≤w'.heap.size∧∀b,b<W.heap.size→b≠pO→some b≠(Value.slice A1 xs.length c1).ownBlock→w'.heap[b]?=W.heap[b]? from rfl)
 generalize StepPost pO base A1 xs.length c1 (xs++stp1 s) W=post at*
 have bx:=hB.cell
 have hlt:pO<W.heap.size:=hB.lt
 have hne:pO≠W.heap.size:=by omega
 have HA:=hdz ((hB.alloc (.cells (stpC s) 80)))
 have HO:=hdz ((ho.alloc (.cells (stpC s) 80)))
 have HB0:=hdz hB;have HO0:=hdz ho
 have hsl:=Sl.lit (enc:=S6) (k:=6) (W.alloc (.cells (stpC s) 80)) (stpC s) 80 [s] (Zm7 s) Zl8
 simp only[World.size_alloc] at hsl
 have HSL:=hdz hsl
 clear hsl
 have HLE:=hdz (show xs.length+1≤100000000000 by omega)
 have HBB:=hdz hb
 have HS1:=hdz (ZlQ (s:=s));have HS0:=hdz (Zm8 (s:=s))
 clear hB ho hl hb
 have HSC:=hdz (show stpC s=#[.string ⟨s.cause.toArray⟩,.string ⟨s.src.toArray⟩,.string ⟨s.dst.toArray⟩,.string ⟨s.q.toArray⟩,.string ⟨s.made.toArray⟩,.string ⟨s.cost.toArray⟩] from rfl)
 have hcase:(s.q.isEmpty=true∧s.made.isEmpty=true∧s.cost.isEmpty=true)∨(s.q.isEmpty=false)∨(s.q.isEmpty=true∧s.made.isEmpty=false)∨(s.q.isEmpty=true∧s.made.isEmpty=true∧s.cost.isEmpty=false):=by
  cases s.q.isEmpty<;>cases s.made.isEmpty<;>cases s.cost.isEmpty<;>simp
 rw[HSC.out] at HA HO HSL
 rw[HSC.out]
 clear HSC
 rcases hcase with ⟨h1,h2,h3⟩|hy
 ·have HXS:=hdz (show xs++stp1 s=xs by rw[HS0.out ⟨List.isEmpty_iff.1 h1,List.isEmpty_iff.1 h2,List.isEmpty_iff.1 h3⟩,List.append_nil])
  have g1:(s.q==[])=true:=by rw[←h1];cases s.q<;>rfl
  have g2:(s.made==[])=true:=by rw[←h2];cases s.made<;>rfl
  have g3:(s.cost==[])=true:=by rw[←h3];cases s.cost<;>rfl
  go_enter Tryz.func82,Tryz.ntmps82
  go_wp2
  refine bodyPost_ret (results_none rfl _ _ _) rfl ?_
  rw[HPO.out,HXS.out]
  exact⟨⟨_,rfl⟩,A1,c1,HA.out,HO.out,rfl,rfl,rfl,by simp,fun b hb _ _=>Below.heap_alloc W _ b hb⟩
 ·have HXS:=hdz (show xs++stp1 s=xs++[s] by
   rw[HS1.out]
   rintro⟨e1,e2,e3⟩
   rw[e1,e2,e3] at hy
   simp at hy)
  have HX2:=hdz (HA.out.alloc (.cells #[.string ⟨s.cause.toArray⟩,.string ⟨s.src.toArray⟩,.string ⟨s.dst.toArray⟩,.string ⟨s.q.toArray⟩,.string ⟨s.made.toArray⟩,.string ⟨s.cost.toArray⟩] 80))
  have HO2:=hdz (HO.out.alloc (.cells #[.string ⟨s.cause.toArray⟩,.string ⟨s.src.toArray⟩,.string ⟨s.dst.toArray⟩,.string ⟨s.q.toArray⟩,.string ⟨s.made.toArray⟩,.string ⟨s.cost.toArray⟩] 80))
  have hsz:(W.alloc (.cells #[.string ⟨s.cause.toArray⟩,.string ⟨s.src.toArray⟩,.string ⟨s.dst.toArray⟩,.string ⟨s.q.toArray⟩,.string ⟨s.made.toArray⟩,.string ⟨s.cost.toArray⟩] 80)).heap.size=W.heap.size+1:=by simp
  have HS2:=hdz hsz
  clear hsz
  have HAL:Hid (∀b,b<W.heap.size→((W.alloc (.cells #[.string ⟨s.cause.toArray⟩,.string ⟨s.src.toArray⟩,.string ⟨s.dst.toArray⟩,.string ⟨s.q.toArray⟩,.string ⟨s.made.toArray⟩,.string ⟨s.cost.toArray⟩] 80)).alloc (.cells #[.string ⟨s.cause.toArray⟩,.string ⟨s.src.toArray⟩,.string ⟨s.dst.toArray⟩,.string ⟨s.q.toArray⟩,.string ⟨s.made.toArray⟩,.string ⟨s.cost.toArray⟩] 80)).heap[b]?=W.heap[b]?):=hdz (fun b hb=>(Below.heap_alloc _ _ b (by simp;omega)).trans (Below.heap_alloc W _ b hb))
  have HB3:=hdz (show base≤((W.alloc (.cells #[.string ⟨s.cause.toArray⟩,.string ⟨s.src.toArray⟩,.string ⟨s.dst.toArray⟩,.string ⟨s.q.toArray⟩,.string ⟨s.made.toArray⟩,.string ⟨s.cost.toArray⟩] 80)).alloc (.cells #[.string ⟨s.cause.toArray⟩,.string ⟨s.src.toArray⟩,.string ⟨s.dst.toArray⟩,.string ⟨s.q.toArray⟩,.string ⟨s.made.toArray⟩,.string ⟨s.cost.toArray⟩] 80)).heap.size by have:=HBB.out;simp;omega)
  rcases hy with h1|⟨h1,h2⟩|⟨h1,h2,h3⟩
  all_goals
   first
    |(have g1:(s.q==[])=true:=by rw[←h1];cases s.q<;>rfl)
    |(have g1:(s.q==[])=false:=by rw[←h1];cases s.q<;>rfl)
   first
    |(have g2:(s.made==[])=true:=by rw[←h2];cases s.made<;>rfl)
    |(have g2:(s.made==[])=false:=by rw[←h2];cases s.made<;>rfl)
    |skip
   first
    |(have g3:(s.cost==[])=false:=by rw[←h3];cases s.cost<;>rfl)
    |skip
   go_enter Tryz.func82,Tryz.ntmps82
   go_wp2_with (at_builtin;refine Zap _ rfl (.tmp 16) (.tmp 18) _ rfl ZjO Zl8 ZmG (base:=base) (.slice A1 xs.length c1) xs rfl HO2.out _ _ 1 1 [s] rfl HSL.out HLE.out HB3.out ?_
                intro A2 c2 w2 ho2 hg2 hat2
                have hb2:=HX2.out.grown hg2 (HO2.out.neBox HX2.out (by decide))
                have cb2:=hb2.cell
                have fb2:=hb2.frozen)
   refine bodyPost_ret (results_none rfl _ _ _) rfl ?_
   rw[HPO.out,HXS.out,List.length_append]
   exact⟨⟨_,rfl⟩,A2,c2,hb2.set_ _,ho2.far (fun h=>ho2.neBox hb2 (by decide) h.symm) _,hg2.os,hg2.tape,hg2.output,by have:=hg2.size;have:=HS2.out;simp at *; omega,fun b hb h1 h2=>(Below.heap_setCell _ _ _ _ h1).trans ((hg2.block b (by simp;omega) h2).trans (HAL.out b hb))⟩
end
section
open Go.RowKit Go.Shelf
structure Kp3 (p q:Nat) (A B:World):Prop where
 os:B.os=A.os
 tape:B.tape=A.tape
 output:B.output=A.output
 size:A.heap.size≤B.heap.size
 blk:∀b,b<A.heap.size→b≠p→b≠q→B.heap[b]?=A.heap[b]?
section
variable {p q:Nat} {A B C:World}
theorem Kp3.refl(p q:Nat)(A:World):Kp3 p q A A:=⟨rfl,rfl,rfl,Nat.le_refl _,fun _ _ _ _=>rfl⟩
theorem Kp3.below(h:Kp3 p q A B)(hb:Below B.heap.size B C):Kp3 p q A C:=⟨hb.os.trans h.os,hb.tape.trans h.tape,hb.output.trans h.output,Nat.le_trans h.size hb.size,fun b hA h1 h2=>(hb.block b (Nat.lt_of_lt_of_le hA h.size)).trans (h.blk b hA h1 h2)⟩
theorem Kp3.alloc(h:Kp3 p q A B)(o:Obj):Kp3 p q A (B.alloc o):=h.below ((Below.refl _ _).alloc (Nat.le_refl _) _)
theorem Kp3.drew(h:Kp3 p q A B):Kp3 p q A B.drew:=h.below (Below.refl _ _).drew
theorem Kp3.set2(h:Kp3 p q A B)(j:Nat)(u:Value):Kp3 p q A (B.setCell ⟨q,j,none⟩ u):=⟨h.os,h.tape,h.output,by simp;exact h.size,fun b hA h1 h2=>(Below.heap_setCell B ⟨q,j,none⟩ u b h2).trans (h.blk b hA h1 h2)⟩
theorem Kp3.add(h:Kp3 p q A B){own:Option Nat}(h1:C.os=B.os)(h2:C.tape=B.tape)(h3:C.output=B.output)(h4:B.heap.size≤C.heap.size)(h5:∀b,b<B.heap.size→b≠p→some b≠own→C.heap[b]?=B.heap[b]?)(ho:∀g,own=some g→A.heap.size≤g):Kp3 p q A C:=
 ⟨h1.trans h.os,h2.trans h.tape,h3.trans h.output,Nat.le_trans h.size h4,fun b hA hp hq=>(h5 b (Nat.lt_of_lt_of_le hA h.size) hp (fun e=>by have:=ho b e.symm;omega)).trans (h.blk b hA hp hq)⟩
theorem Kp3.under{w:World}{N:Nat}(h:Kp3 p q A B)(hb:Below N w A)(hN:N≤A.heap.size)(hp:N≤p)(hq:N≤q):Below N w B:=
 ⟨h.os.trans hb.os,h.tape.trans hb.tape,h.output.trans hb.output,Nat.le_trans hb.size h.size,fun b hb'=>(h.blk b (by omega) (by omega) (by omega)).trans (hb.block b hb')⟩
theorem Kp3.blkB{b:Nat}{cs:Array Value}{T:TypeId}(h:Kp3 p q A B)(hb:BlkB A b cs T)(h1:b≠p)(h2:b≠q):BlkB B b cs T:=(h.blk b hb.lt h1 h2).trans hb
theorem Kp3.box{b:Nat}{v:Value}{T:TypeId}(h:Kp3 p q A B)(hb:Box A b T v)(h1:b≠p)(h2:b≠q):Box B b T v:=(h.blk b hb.lt h1 h2).trans hb
theorem Kp3.pl{n₀ pn pm pf pp:Nat}{v:PlV}{x:Plan}{old:List Lot}(h:Kp3 p q A B)(hM:PlM A n₀ v x old pn pm pf pp)(hn:n₀≤A.heap.size)(h1:n₀≤p)(h2:n₀≤q):PlM B n₀ v x old pn pm pf pp:=
 hM.kept hn (fun b hb=>h.blk b (by omega) (by omega) (by omega))
end
end
end Go.Proofs.YtpnncoinlopndaaGreatDoor
