/- Fk1, Kc, Vm, Vm2, FkI, Vs1, Vs2, Vlt, Vl1, Vbl, Vix, Vdf, Vde, Vin. -/
import Derived.Test.YtokjnjdbnabchaaGreatDoorQGEp38
import Derived.Test.YtokjnjdbnabchaaGreatDoorQGEp31
import Derived.Deep.MidRow
import Derived.Great.BuildSlice
import Derived.Lib.Overlaps
import Derived.Lib.LazyBuf
import Derived.Laws.Externs
import Derived.Deep.RegionLaw
import Derived.RegionTactic
set_option maxRecDepth 20000
set_option maxHeartbeats 1000000
namespace Go.Proofs.YtokjnjdbnabchaaGreatDoor
open Go.Lib renaming hid→jq
open Go.RowKit Go.Shelf
section
def P2(p:Pk):List Value:=[S p.lot,S p.q]
def PkV(p:Pk):Value:=.agg #[S p.lot,S p.q]
theorem Zic(p:Pk):(P2 p).length=2:=rfl
def O7(o:Opn):List Value:=[S o.other,S o.ratio.n,S o.ratio.d,S o.price.n,S o.price.d,S o.value.n,S o.value.d]
theorem Zid(o:Opn):(O7 o).length=7:=rfl
abbrev Pks(w:World)(B:Nat)(A:Option Addr)(n:Nat)(xs:List Pk):Prop:=Sl P2 2 w B A n xs
abbrev Ops(w:World)(B:Nat)(A:Option Addr)(n:Nat)(xs:List Opn):Prop:=Sl O7 7 w B A n xs
theorem Sl.pk{w:World}{B:Nat}{A:Option Addr}{n:Nat}{xs:List Pk}{i:Nat}(h:Pks w B A n xs)(hi:i<n):
 ∃b off x,A=some ⟨b,off,none⟩/\b<B/\xs[i]?=some x/\w.cell? ⟨b,off+i*2,none⟩=some (.string ⟨x.lot.toArray⟩)/\w.cell? ⟨b,off+i*2+1,none⟩=some (.string ⟨x.q.toArray⟩):=by
 obtain⟨b,off,x,hA,hb,hx,hc⟩:=h.at_ hi
 exact⟨b,off,x,hA,hb,hx,hc 0 _ rfl,hc 1 _ rfl⟩
theorem Sl.opt{w:World}{B:Nat}{A:Option Addr}{n:Nat}{xs:List Opn}{i:Nat}(h:Ops w B A n xs)(hi:i<n):
 ∃b off x,A=some ⟨b,off,none⟩/\b<B/\xs[i]?=some x/\w.cell? ⟨b,off+i*7,none⟩=some (.string ⟨x.other.toArray⟩)/\w.cell? ⟨b,off+i*7+1,none⟩=some (.string ⟨x.ratio.n.toArray⟩)/\w.cell? ⟨b,off+i*7+2,none⟩=some (.string ⟨x.ratio.d.toArray⟩)/\
  w.cell? ⟨b,off+i*7+3,none⟩=some (.string ⟨x.price.n.toArray⟩)/\w.cell? ⟨b,off+i*7+4,none⟩=some (.string ⟨x.price.d.toArray⟩)/\w.cell? ⟨b,off+i*7+5,none⟩=some (.string ⟨x.value.n.toArray⟩)/\w.cell? ⟨b,off+i*7+6,none⟩=some (.string ⟨x.value.d.toArray⟩):=by
 obtain⟨b,off,x,hA,hb,hx,hc⟩:=h.at_ hi
 exact⟨b,off,x,hA,hb,hx,hc 0 _ rfl,hc 1 _ rfl,hc 2 _ rfl,hc 3 _ rfl,hc 4 _ rfl,hc 5 _ rfl,hc 6 _ rfl⟩
structure FaV where
 pA:Option Addr
 pn:Nat
 pc:Nat
 oA:Option Addr
 on:Nat
 oc:Nat
def ftA(f:Fct)(v:FaV):List Value:=
 [S f.key,.int .i64 f.stamp,.bool f.cancelled,.int .i64 f.day,.int .i64 f.kind,S f.inst,S f.other,S f.cur,S f.target,S f.q,S f.amount,S f.fee,S f.price.n,S f.price.d,S f.ratio.n,S f.ratio.d,S f.share.n,S f.share.d,
  .slice v.pA v.pn v.pc,.slice v.oA v.on v.oc,.int .i64 f.choice]
structure FaM (w:World) (B:Nat) (f:Fct) (v:FaV):Prop where
 pk:Pks w B v.pA v.pn f.picks
 op:Ops w B v.oA v.on f.options
 pc:v.pn<=v.pc
theorem FaM.below{w w':World}{B:Nat}{f:Fct}{v:FaV}(h:FaM w B f v)(hb:Below B w w'):FaM w' B f v:=⟨h.pk.below hb,h.op.below hb,h.pc⟩
theorem FaM.more{w:World}{B B':Nat}{f:Fct}{v:FaV}(h:FaM w B f v)(hB:B<=B'):FaM w B' f v:=⟨h.pk.more hB,h.op.more hB,h.pc⟩
theorem FaM.here{w w':World}{f:Fct}{v:FaV}(h:FaM w w.1.size f v)(hb:Below w.1.size w w'):FaM w' w'.1.size f v:=⟨h.pk.here hb,h.op.here hb,h.pc⟩
def I64(n:Int):Prop:= -9223372036854775808<=n/\n<=9223372036854775807
structure Pk.Sz (L:Nat) (p:Pk):Prop where
 lot:p.lot.length<=L
 q:p.q.length<=L
structure Opn.Sz (L:Nat) (o:Opn):Prop where
 other:o.other.length<=L
 ratio:o.ratio.Sz L
 price:o.price.Sz L
 value:o.value.Sz L
structure Fct.Sz (L:Nat) (f:Fct):Prop where
 key:f.key.length<=L
 inst:f.inst.length<=L
 other:f.other.length<=L
 cur:f.cur.length<=L
 target:f.target.length<=L
 q:f.q.length<=L
 amount:f.amount.length<=L
 fee:f.fee.length<=L
 price:f.price.Sz L
 ratio:f.ratio.Sz L
 share:f.share.Sz L
 picks:∀p∈f.picks,p.Sz L
 options:∀o∈f.options,o.Sz L
 stamp:I64 f.stamp
 day:I64 f.day
 kind:I64 f.kind
 choice:I64 f.choice
end
section
def kB(word:List UInt8)(cls:Int)(p:Nat->Bool)(mv:Value)(code:Bool):Array Value:=
 #[.string ⟨word.toArray⟩,.int .i64 cls,.bool (p 0),.bool (p 1),.bool (p 2),.bool (p 3),.bool (p 4),.bool (p 5),.bool (p 6),.bool (p 7),.bool (p 8),.bool (p 9),.bool (p 10),.bool (p 11),.bool (p 12),mv,.bool code]
theorem Zg5(word:List UInt8)(cls:Int)(p:Nat->Bool)(mv:Value)(code:Bool):(kB word cls p mv code).size=17:=rfl
theorem Zbm(word:List UInt8)(cls:Int)(p:Nat->Bool)(mv:Value)(code:Bool)(i:Nat)(hi:i<=12):(kB word cls p mv code)[2+i]?=some (.bool (p i)):=by
 match i,hi with
 |0,_=>rfl|1,_=>rfl|2,_=>rfl|3,_=>rfl|4,_=>rfl|5,_=>rfl|6,_=>rfl|7,_=>rfl|8,_=>rfl|9,_=>rfl|10,_=>rfl|11,_=>rfl|12,_=>rfl
theorem Zc7(word:List UInt8)(cls:Int)(p:Nat->Bool)(mv:Value)(code:Bool)(i:Nat)(hi:i<=12):(kB word cls p mv code).setIfInBounds (2+i) (.bool true)=kB word cls (fun j=>if j==i then true else p j) mv code:=by
 match i,hi with
 |0,_=>rfl|1,_=>rfl|2,_=>rfl|3,_=>rfl|4,_=>rfl|5,_=>rfl|6,_=>rfl|7,_=>rfl|8,_=>rfl|9,_=>rfl|10,_=>rfl|11,_=>rfl|12,_=>rfl
theorem XC{word:List UInt8}{cls:Int}{p q:Nat->Bool}{mv:Value}{code:Bool}(h:∀i,i<=12->p i=q i):kB word cls p mv code=kB word cls q mv code:=by
 unfold kB;rw[h 0 (by omega),h 1 (by omega),h 2 (by omega),h 3 (by omega),h 4 (by omega),h 5 (by omega),h 6 (by omega),h 7 (by omega),h 8 (by omega),h 9 (by omega),h 10 (by omega),h 11 (by omega),h 12 (by omega)]
theorem Yj(word:List UInt8)(cls:Int)(p:Nat->Bool)(mv:Value)(code:Bool)(h:mv.oneCell'=true):(kB word cls p mv code).all (·.oneCell')=true:=by
 rw[Array.all_eq_true_iff_forall_mem];intro x hx;simp only[kB,List.mem_toArray,List.mem_cons,List.mem_nil_iff,or_false] at hx
 rcases hx with rfl|rfl|rfl|rfl|rfl|rfl|rfl|rfl|rfl|rfl|rfl|rfl|rfl|rfl|rfl|rfl|rfl<;>first|exact h|rfl
def Qe(f:Fct)(v:FaV):Array Value:=
 #[.string ⟨f.key.toArray⟩,.int .i64 f.stamp,.bool f.cancelled,.int .i64 f.day,.int .i64 f.kind,.string ⟨f.inst.toArray⟩,.string ⟨f.other.toArray⟩,.string ⟨f.cur.toArray⟩,.string ⟨f.target.toArray⟩,.string ⟨f.q.toArray⟩,.string ⟨f.amount.toArray⟩,.string ⟨f.fee.toArray⟩,
  .string ⟨f.price.n.toArray⟩,.string ⟨f.price.d.toArray⟩,.string ⟨f.ratio.n.toArray⟩,.string ⟨f.ratio.d.toArray⟩,.string ⟨f.share.n.toArray⟩,.string ⟨f.share.d.toArray⟩,.slice v.pA v.pn v.pc,.slice v.oA v.on v.oc,.int .i64 f.choice]
theorem Zfg(f:Fct)(v:FaV):(ftA f v).toArray=Qe f v:=rfl
theorem QV(f:Fct)(v:FaV):(Qe f v).size=21:=rfl
def ldK(v:Value):Sem Value:=Instr.loadAt 182 v
theorem Yy(v:Value):Instr.loadAt 182 v=ldK v:=rfl
theorem Jw{w:World}{g:Nat}{pb:Array Value}(hg:BlkB w g pb 182)(hs:pb.size=17):(ldK (.pointer (some ⟨g,0,none⟩))).run Tryz.prog w=.ok (.agg pb) w:=by
 have e:=run_loadVar_row (P:=Tryz.prog) w g 182 182 pb (0,0) _ hg Tryz.underlying182 rfl (by rw[hs];kernel_rfl);unfold ldK;simp only[Instr.loadAt,Instr.sureAddr,Sem.run_bind,Sem.run_pure,Result.andThen_ok,e]
def stK(a v:Value):Sem Unit:=Instr.storeAt 182 a v
theorem JM(a v:Value):Instr.storeAt 182 a v=stK a v:=rfl
theorem Yk{w:World}{g:Nat}{old pb:Array Value}(hg:BlkB w g old 182)(ho:old.size=17)(hs:pb.size=17)(h1:pb.all (·.oneCell')=true):(stK (.pointer (some ⟨g,0,none⟩)) (.agg pb)).run Tryz.prog w=.ok () (w.setRow g pb):=by
 have e:=run_storeVar_row (P:=Tryz.prog) w g 182 182 old pb hg (by rw[hs];kernel_rfl) (by rw[ho,hs]) h1;unfold stK;simp only[Instr.storeAt,Instr.sureAddr,Sem.run_bind,Sem.run_pure,Result.andThen_ok,e]
def ldF(v:Value):Sem Value:=Instr.loadAt 44 v
theorem Qs(v:Value):Instr.loadAt 44 v=ldF v:=rfl
theorem Xp{w:World}{g:Nat}{pb:Array Value}(hg:BlkB w g pb 44)(hs:pb.size=21):(ldF (.pointer (some ⟨g,0,none⟩))).run Tryz.prog w=.ok (.agg pb) w:=by
 have e:=run_loadVar_row (P:=Tryz.prog) w g 44 44 pb (0,0) _ hg Tryz.underlying44 rfl (by rw[hs];kernel_rfl);unfold ldF;simp only[Instr.loadAt,Instr.sureAddr,Sem.run_bind,Sem.run_pure,Result.andThen_ok,e]
end
section
abbrev Fx:=Fct×FaV
def YY(x:Fx):List Value:=ftA x.1 x.2
theorem YO(x:Fx):(YY x).length=21:=rfl
theorem ZdL(x:Fx):∀u∈YY x,u.oneCell'=true:=by
 intro u hu;simp only[YY,ftA,S,List.mem_cons,List.mem_nil_iff,or_false] at hu
 rcases hu with rfl|rfl|rfl|rfl|rfl|rfl|rfl|rfl|rfl|rfl|rfl|rfl|rfl|rfl|rfl|rfl|rfl|rfl|rfl|rfl|rfl<;>rfl
structure FxM (w:World) (B:Nat) (x:Fx):Prop where
 m:FaM w B x.1 x.2
 pn:x.2.pn<=100000
 on:x.2.on<=100000
 sz:x.1.Sz 1000
structure Fxs (w:World) (B:Nat) (A:Option Addr) (n:Nat) (xs:List Fx):Prop where
 sl:Sl YY 21 w B A n xs
 all:∀x∈xs,FxM w B x
section
variable {w w':World} {B B' n i:Nat} {A:Option Addr} {xs:List Fx} {x:Fx}
theorem FxM.below(h:FxM w B x)(hb:Below B w w'):FxM w' B x:=⟨h.m.below hb,h.pn,h.on,h.sz⟩
theorem FxM.more(h:FxM w B x)(hB:B<=B'):FxM w B' x:=⟨h.m.more hB,h.pn,h.on,h.sz⟩
theorem FxM.here(h:FxM w w.1.size x)(hb:Below w.1.size w w'):FxM w' w'.1.size x:=(h.below hb).more hb.size
theorem Fxs.below(h:Fxs w B A n xs)(hb:Below B w w'):Fxs w' B A n xs:=⟨h.sl.below hb,fun x hx=>(h.all x hx).below hb⟩
theorem Fxs.more(h:Fxs w B A n xs)(hB:B<=B'):Fxs w B' A n xs:=⟨h.sl.more hB,fun x hx=>(h.all x hx).more hB⟩
theorem Fxs.here(h:Fxs w w.1.size A n xs)(hb:Below w.1.size w w'):Fxs w' w'.1.size A n xs:=(h.below hb).more hb.size
theorem Fxs.len(h:Fxs w B A n xs):n=xs.length:=h.sl.1
theorem Fxs.nil:Fxs w B A 0 []:=⟨Sl.nil,fun x hx=>by cases hx⟩
theorem Zg6(f:Fct)(v:FaV):(ftA f v).length=21:=rfl
theorem Xs{b off:Nat}{f:Fct}{v:FaV}(h:w.rangeAt b off (ftA f v)):(ldF (.pointer (some ⟨b,off,none⟩))).run Tryz.prog w=.ok (.agg (Qe f v)) w:=by
 have e:=run_loadAt_mid (P:=Tryz.prog) w b off 44 (ftA f v) _ h Tryz.underlying44 rfl (by rw[Zg6];kernel_rfl);exact e
theorem Fxs.at_(h:Fxs w B A n xs)(hi:i<n):∃b off f v,A=some ⟨b,off,none⟩/\b<B/\xs[i]?=some (f,v)/\FxM w B (f,v)/\w.rangeAt b (off+i*21) (ftA f v):=by
 obtain⟨b,off,x,hA,hb,hx,hc⟩:=h.sl.at_ hi
 exact⟨b,off,x.1,x.2,hA,hb,hx,h.all x (List.mem_of_getElem? hx),fun j v hj=>hc j v hj⟩
theorem ZaA{b off:Nat}{cs:List Value}(h:w.rangeAt b off cs)(hb:Below B w w')(hB:b<B):w'.rangeAt b off cs:=fun j v hj=>(hb.cell (p:=⟨b,off+j,none⟩) hB).trans (h j v hj)
def blF(n:Nat)(ps:Array (Nat×Value)):Sem Value:=Instr.buildSlice 22 n ps
theorem Zfh(n:Nat)(ps:Array (Nat×Value)):Instr.buildSlice 22 n ps=blF n ps:=rfl
theorem Zfi(w:World)(f:Fct)(v:FaV):(blF 1 #[(0,.agg (Qe f v))]).run Tryz.prog w=.ok (.slice (some ⟨w.1.size,0,none⟩) 1 1) (w.alloc (.cells (Qe f v) 44)):=by
 obtain⟨i,hi,z,hz,hs⟩:∃i,Tryz.prog.info? 44=some i/\∃z,i.zero=some z/\i.size=21:=by
  have h:(Tryz.prog.info? 44).map (fun i=>(i.zero.isSome,i.size))=some (true,21):=by kernel_rfl
  cases hq:Tryz.prog.info? 44 with
  |none=>rw[hq] at h;cases h
  |some i=>
   rw[hq] at h;simp only[Option.map_some,Option.some.injEq,Prod.mk.injEq] at h
   cases hz:i.zero with
   |none=>rw[hz] at h;cases h.1
   |some z=>exact⟨i,rfl,z,hz,h.2⟩
 refine run_buildSlice w 22 44 1 _ (Qe f v) i z Tryz.underlying22 hi hz (by rw[hs];decide) (by rw[hs];decide) ?_;rw[hs];generalize hg:(fun x=>z.cells[x%z.cells.size]!)=g;have hr:Array.range (1*21)=#[0,1,2,3,4,5,6,7,8,9,10,11,12,13,14,15,16,17,18,19,20]:=by rfl
 rw[hr];simp[Instr.fill,Qe,Value.cells]
def stF(a v:Value):Sem Unit:=Instr.storeAt 44 a v
theorem QG(a v:Value):Instr.storeAt 44 a v=stF a v:=rfl
theorem Zg7(f:Fct)(v:FaV):(Qe f v).all (·.oneCell')=true:=by
 rw[Array.all_eq_true_iff_forall_mem];intro x hx;exact ZdL (f,v) x (by rw[<-Zfg,List.mem_toArray] at hx;exact hx)
theorem Zg8{g:Nat}{old:Array Value}{f:Fct}{v:FaV}(hg:BlkB w g old 44)(ho:old.size=21):(stF (.pointer (some ⟨g,0,none⟩)) (.agg (Qe f v))).run Tryz.prog w=.ok () (w.setRow g (Qe f v)):=by
 have e:=run_storeVar_row (P:=Tryz.prog) w g 44 44 old (Qe f v) hg (by rw[QV];kernel_rfl) (by rw[ho,QV]) (Zg7 f v);unfold stF;simp only[Instr.storeAt,Instr.sureAddr,Sem.run_bind,Sem.run_pure,Result.andThen_ok,e]
theorem Yz(w:World){cs:Array Value}(f:Fct)(v:FaV)(hc:cs.size=21):(stF (.pointer (some ⟨w.1.size,0,none⟩)) (.agg (Qe f v))).run Tryz.prog (w.alloc (.cells cs 44))=.ok () (w.alloc (.cells (Qe f v) 44)):=by
 rw[Zg8 (show BlkB (w.alloc (.cells cs 44)) w.1.size cs 44 from heap_alloc_new w _) hc,World.setRow_alloc_new]
end
end
section
def FsPost(l:List Fct)(e2:Int)(w:World):Ending->World->Prop:=fun e w'=>
 ∃A c ys,e=.returned (.tuple #[.slice A ys.length c,.int .i64 e2])/\Fxs w' w'.1.size A ys.length ys/\ys.map (·.1)=l/\(ys.length<=c/\(A=none->c=0)/\(∀a:Addr,A=some a->w.1.size<=a.block)/\∀y∈ys,FxM w' w.1.size y)/\Below w.1.size w w'
theorem FsPost.empty{w w':World}{e2:Int}(hb:Below w.1.size w w'):FsPost [] e2 w (.returned (.tuple #[.slice none 0 0,.int .i64 e2])) w':=⟨none,0,[],rfl,Fxs.nil,rfl,⟨Nat.le_refl _,fun _=>rfl,fun _ h=>(by cases h),fun _ h=>(by cases h)⟩,hb⟩
theorem Own.room{α:Type}{enc:α->List Value}{k base n c:Nat}{e:TypeId}{w:World}{A:Option Addr}{xs:List α}(h:Own enc k e w base (.slice A n c) xs):xs.length<=c/\(A=none->c=0)/\∀a:Addr,A=some a->base<=a.block:=by
 obtain⟨_,h2,_,h4⟩:=h.facts
 refine⟨h2,fun e=> ?_,fun a e=> ?_⟩
 all_goals rcases h4 with ⟨h6,h5,_⟩|⟨g,h5,h6,_⟩
 ·exact h5
 ·rw[e] at h5;cases h5
 ·rw[e] at h6;cases h6
 ·rw[e] at h5;cases h5;exact h6
theorem QR{W W':World}{row:Option Nat}{B B':Nat}(hg:W.grownBy W' row)(hB:B<=W.1.size)(hBB:B<=B')(hr:∀r,row=some r->B'<=r):Below B W W':=
 ⟨hg.os,hg.tape,hg.output,hg.size,fun k hk=>hg.block k (by omega) (fun e=>by have:=hr k e.symm;omega)⟩
theorem Zio{W:World}{q:Nat}{f:Fct}{v:FaV}(h:BlkB W q (Qe f v) 44):Sl YY 21 W W.1.size (some ⟨q,0,none⟩) 1 [(f,v)]:=by
 refine⟨rfl,fun _=>⟨q,0,rfl,h.lt,fun j z hj k u hk=> ?_⟩⟩
 cases j with
 |zero=>
  simp only[List.getElem?_cons_zero,Option.some.injEq] at hj;subst hj;rw[Nat.zero_mul,Nat.zero_add];exact h.cell k (by rw[<-Zfg,List.getElem?_toArray];exact hk)
 |succ j=>simp at hj
theorem ZeA:Yt Tryz.prog 22 44 21 312:=Vu Tryz.underlying22 (by kernel_rfl) (by decide) (by decide)
end
section
theorem Zcx(g:Nat)(cb:Array Value)(p:Pk->Bool)(A:Option Addr)(n c:Nat)(xs:List Pk)(w:World)(eg:∀args w,(callFunc g args).run Tryz.prog w=.ok (.enter g args) w)
 (hp:∀(W:World) (x:Pk),x∈xs->Below w.1.size w W->Calls Tryz.prog g (#[PkV x]++cb) W fun e w'=>e=.returned (.bool (p x))/\Below W.1.size W w') (hr:Sl P2 2 w w.1.size A n xs) (hn:n<=1000000000):
 Calls Tryz.prog 301 #[.slice A n c,.func (.func g) #[] cb] w fun e w'=>e=.returned (.int .i64 (Zaw p xs))/\Below w.1.size w w':=by
 have HPR:=jq hp;have HR:=jq hr;clear hp hr;go_enter Tryz.func301,Tryz.ntmps301
 go_wp2
 go_loopw [5,8] (fun _ i wr=>∃j:Nat,j<=n/\i=.int .i64 j/\Hid ((xs.take j).any p=false)/\Below w.1.size w wr) (fun _ i _=>n-(intOf i).toNat)
 case atStart=>exact⟨0,Nat.zero_le _,rfl,by show _=_;simp,Below.refl _ _⟩
 case round=>
  obtain⟨j,hj,rfl,HN,hb⟩:=hrel
  by_cases hlt:j<n
  ·obtain⟨b,off,r,rfl,hbl,hxj,hd⟩:=(HR.out.below hb).at_ hlt
   have d0:wr.cell? ⟨b,off+j*2,none⟩=some (.string ⟨r.lot.toArray⟩):=hd 0 _ rfl;have d1:wr.cell? ⟨b,off+j*2+1,none⟩=some (.string ⟨r.q.toArray⟩):=hd 1 _ rfl;have HX:=jq hxj;have hcall:=HPR.out wr r (List.mem_of_getElem? hxj) hb;unfold PkV S at hcall;clear hxj hd;have HC:=jq hcall;clear hcall
   cases hq:p r with
   |true=>
    rw[hq] at HC;have HQ:=jq hq;clear hq;go_wp2_with (go_at_fn g;refine(HC.out).mono ?_;rintro e w' ⟨rfl,hb'⟩)
    go_ret
    exact⟨Qa (Zb5 HX.out HQ.out HN.out).symm,hb.trans (hb'.mono hb.size)⟩
   |false=>
    rw[hq] at HC;have HQ:=jq hq;clear hq;go_wp2_with (go_at_fn g;refine(HC.out).mono ?_;rintro e w' ⟨rfl,hb'⟩)
    go_roundw
    case rel=>exact⟨j+1,by omega,by go_num,VG HX.out HN.out HQ.out,hb.trans (hb'.mono hb.size)⟩
    case measure=>simp[intOf];omega
  ·go_wp2
   go_ret
   exact⟨Qa (VF (by have:=HN.out;rwa [List.take_of_length_le (by have:=HR.out.1;omega)] at this)).symm,hb⟩
theorem Zag(g:Nat)(cb:Array Value)(p:Pk->Bool)(A:Option Addr)(n c:Nat)(xs:List Pk)(w:World)(eg:∀args w,(callFunc g args).run Tryz.prog w=.ok (.enter g args) w)
 (hp:∀(W:World) (x:Pk),x∈xs->Below w.1.size w W->Calls Tryz.prog g (#[PkV x]++cb) W fun e w'=>e=.returned (.bool (p x))/\Below W.1.size W w') (hr:Sl P2 2 w w.1.size A n xs) (hn:n<=1000000000):
 Calls Tryz.prog 270 #[.slice A n c,.func (.func g) #[] cb] w fun e w'=>e=.returned (.bool (xs.any p))/\Below w.1.size w w':=by
 have H:=jq (Zcx g cb p A n c xs w eg hp hr hn);clear hp eg hr;have e:=Je p xs;generalize Zaw p xs=z at*;have E:=jq e;clear e;go_enter Tryz.func270,Tryz.ntmps270
 go_wp2_with (go_at_call 301;refine(H.out).mono ?_;rintro e w' ⟨rfl,hb'⟩)
 go_ret
 exact⟨Qm E.out,hb'⟩
end
section
attribute [local go_sem] Oper.semAt_some
attribute [local go_sem ↓] Go.wp_at_zero Go.wp_at_succ
end
section
attribute [local go_sem] Oper.semAt_some
attribute [local go_sem ↓] Go.wp_at_zero Go.wp_at_succ Qs
end
section
attribute [local go_sem] Oper.semAt_some
attribute [local go_sem ↓] Qs QG
abbrev AtE(xs:List Fx):={z:Nat×Fx//xs[z.1]?=some z.2}
end
section
attribute [local go_sem] Oper.semAt_some
attribute [local go_sem ↓] Qs QG
theorem SeenB.kept{w w':World}{b n:Nat}{l:List (List UInt8)}{row:Option Nat}(h:SeenB w b n l)(hg:w.grownBy w' row)(hne:some b≠row):SeenB w' b n l:=by
 obtain⟨D,⟨es,clock,h1,h2⟩,h3⟩:=h
 exact⟨D,⟨es,clock,(hg.block b (Array.getElem?_eq_some_iff.1 h1).1 hne).trans h1,h2⟩,h3⟩
abbrev InE(xs:List Fx):={x:Fx//x∈xs}
def Zh3{xs:List Fx}(l:List (AtE xs)):List Fct:=l.map fun z=>z.1.2.1
def ZiS{xs:List Fx}(l:List (InE xs)):List Fct:=l.map fun z=>z.1.1
structure LtI {xs:List Fx} (l y0 p sb:Nat) (J:List (InE xs)->World->Prop) (sz:Nat) (pre:List (AtE xs)) (W:World):Prop where
 ex:∃(o:List (InE xs)) (seen:List (List UInt8)) (k:Nat),k<=pre.length/\ZiS o=ZfF [] (Zh3 pre)/\(∀s,s∈seen↔s∈(Zh3 pre).map (·.key))/\J o W/\SeenB W p k seen
 y:Box W y0 45 (.func (.yield l) #[] #[])
 s:Box W sb 125 (.map (some p))
 le:sz<=W.1.size
theorem LtI.own{xs:List Fx}{l y0 p sb:Nat}{J:List (InE xs)->World->Prop}{sz B:Nat}(hJ:OwnFrom B J)(hB:B<=sz)(hp:p<sz):OwnFrom sz (LtI l y0 p sb J sz):=by
 rintro pre W W' row ⟨⟨o,seen,k,hk,h1,h2,h3,h4⟩,hy,hs,hle⟩ hg hr;refine⟨⟨o,seen,k,hk,h1,h2,hJ _ _ _ _ h3 hg (fun r e=>⟨Nat.le_trans hB (hr r e).1,(hr r e).2⟩),h4.kept hg (fun e=>by have:=(hr p e.symm).1;omega)⟩,hy.turned hg hr,hs.turned hg hr,Nat.le_trans hle hg.size⟩
end
section
theorem ZeV:∀(cs:List Value) (n j:Nat) (A:Array Value),n+j+cs.length<=A.size->
 ((cs.zipIdx j).foldl (fun(B:Array Value) (x:Value×Nat)=>B.setIfInBounds (n+x.2) x.1) A).toList=A.toList.take (n+j)++cs++A.toList.drop (n+j+cs.length):=by
 intro cs
 induction cs with
 |nil=>intro n j A _;simp
 |cons c cs ih=>
  intro n j A h;rw[List.length_cons] at h ⊢;rw[List.zipIdx_cons,List.foldl_cons,ih n (j+1) _ (by simp;omega)];have hl:n+j<A.toList.length:=by simp;omega
  have e:(A.setIfInBounds (n+j) c).toList=A.toList.take (n+j)++c::A.toList.drop (n+j+1):=by
   rw[Array.toList_setIfInBounds,List.set_eq_take_append_cons_drop,if_pos hl]
  have ht:(A.toList.take (n+j)).length=n+j:=by rw[List.length_take];omega
  rw[e,show n+(j+1)=(A.toList.take (n+j)).length+1 by omega,List.take_length_add_append,show(A.toList.take (n+j)).length+1+cs.length=(A.toList.take (n+j)).length+(cs.length+1) by omega,List.drop_length_add_append];rw[List.drop_succ_cons,List.drop_drop];simp only[List.take_succ_cons,List.take_zero,List.append_assoc,List.cons_append,List.nil_append,List.append_cancel_left_eq];rw[show n+j+1+cs.length=n+j+(cs.length+1) by omega]
theorem ZeW(k:Nat):∀(l:List (Array Value)) (i:Nat) (C:Array Value),(∀a∈l,a.size=k)->C.size=(i+l.length)*k->
 ∃D,Instr.fill (fun i=>some (i*k,k)) C ((l.zipIdx i).map fun x=>(x.2,Value.agg x.1))=some D/\D.toList=C.toList.take (i*k)++l.flatMap (·.toList):=by
 intro l
 induction l with
 |nil=>
  intro i C _ hC;refine⟨C,rfl,?_⟩;rw[List.flatMap_nil,List.append_nil,List.take_of_length_le (by simp at hC;simp[hC])]
 |cons a l ih=>
  intro i C ha hC;have hk:a.size=k:=ha a (List.mem_cons_self ..);rw[List.length_cons] at hC;have hm:i*k+k<=C.size:=by rw[hC,<-Nat.succ_mul];exact Nat.mul_le_mul_right k (by omega)
  have hf:=ZeV a.toList (i*k) 0 C (by simp[hk];omega)
  have hz:(a.zipIdx.foldl (fun(B:Array Value) (x:Value×Nat)=>B.setIfInBounds (i*k+x.2) x.1) C).toList=C.toList.take (i*k)++a.toList++C.toList.drop (i*k+k):=by
   rw[<-Array.foldl_toList,Array.toList_zipIdx];have h:=hf;simp only[Nat.add_zero,Array.length_toList,hk] at h;exact h
  obtain⟨D,h1,h2⟩:=ih (i+1) (a.zipIdx.foldl (fun(B:Array Value) (x:Value×Nat)=>B.setIfInBounds (i*k+x.2) x.1) C) (fun b hb=>ha b (List.mem_cons_of_mem _ hb)) (by
   have h3:=congrArg List.length hz;rw[Array.length_toList] at h3;rw[h3];simp only[List.length_append,List.length_take,List.length_drop,Array.length_toList,hk];rw[Nat.min_eq_left (by omega),show i+1+l.length=i+(l.length+1) by omega,<-hC];omega)
  refine⟨D,?_,?_⟩
  ·rw[List.zipIdx_cons,List.map_cons];unfold Instr.fill;simp only[Value.cells,hk];rw[if_neg (by simp;omega)];exact h1
  ·have ht:(C.toList.take (i*k)).length=i*k:=by rw[List.length_take,Array.length_toList];omega
   have hak:a.toList.length=k:=by rw[Array.length_toList];exact hk
   have e3:∀(R P:List Value),P.length=i*k->(P++a.toList++R).take (i*k+k)=P++a.toList:=fun R P hP=>by
    rw[List.take_append_of_le_length (by rw[List.length_append,hP,hak];exact Nat.le_refl _),List.take_of_length_le (by rw[List.length_append,hP,hak];exact Nat.le_refl _)]
   rw[h2,hz,List.flatMap_cons,Nat.succ_mul,e3 _ _ ht,List.append_assoc]
theorem ZgE(w:World)(xs:List Fx)(ps:Array (Nat×Value))(h0:xs≠[])(hl:xs.length<=1000)(hps:ps.toList=((xs.map fun x=>Qe x.1 x.2).zipIdx 0).map fun x=>(x.2,Value.agg x.1)):
 (blF xs.length ps).run Tryz.prog w=.ok (.slice (some ⟨w.1.size,0,none⟩) xs.length xs.length) (w.alloc (.cells (xs.flatMap YY).toArray 44)):=by
 obtain⟨i,hi,z,hz,hs⟩:∃i,Tryz.prog.info? 44=some i/\∃z,i.zero=some z/\i.size=21:=by
  have h:(Tryz.prog.info? 44).map (fun i=>(i.zero.isSome,i.size))=some (true,21):=by kernel_rfl
  cases hq:Tryz.prog.info? 44 with
  |none=>rw[hq] at h;cases h
  |some i=>
   rw[hq] at h;simp only[Option.map_some,Option.some.injEq,Prod.mk.injEq] at h
   cases hz:i.zero with
   |none=>rw[hz] at h;cases h.1
   |some z=>exact⟨i,rfl,z,hz,h.2⟩
 have hne:xs.length≠0:=by cases xs;exact absurd rfl h0;simp
 refine run_buildSlice w 22 44 xs.length _ (xs.flatMap YY).toArray i z Tryz.underlying22 hi hz (by rw[hs];omega) (by rw[hs];omega) ?_;rw[hs,hps]
 obtain⟨D,h1,h2⟩:=ZeW 21 (xs.map fun x=>Qe x.1 x.2) 0 ((Array.range (xs.length*21)).map (fun x=>z.cells[x%z.cells.size]!)) (fun a ha=>by
  obtain⟨x,_,rfl⟩:=List.mem_map.1 ha
  rfl) (by simp)
 rw[h1];refine congrArg some (Array.ext' ?_);rw[h2,Nat.zero_mul,List.take_zero,List.nil_append,List.flatMap_map];rfl
end
section
attribute [local go_sem] Oper.semAt_some
attribute [local go_sem ↓] Qs QG
end
section
attribute [local go_sem] Oper.semAt_some
attribute [local go_sem ↓] Qs QG
section
variable {w:World} {g n c base i:Nat} {xs:List Fx}
theorem Own.row(ho:Own YY 21 44 w base (.slice (some ⟨g,0,none⟩) n c) xs):∃cur:Array Value,BlkB w g cur 44/\n=xs.length/\n*21<=cur.size/\cur.toList.take (n*21)=xs.flatMap YY/\base<=g/\
 ∀(cs:Array Value) (ys:List Fx) (m:Nat),cs.size=cur.size->m<=n->ys.length=m->cs.toList.take (m*21)=ys.flatMap YY->Own YY 21 44 (w.setRow g cs) base (.slice (some ⟨g,0,none⟩) m c) ys:=by
 have hn:=ho.facts.1
 rcases ho.2 with ⟨h0,_⟩|⟨g',cap,cur,hv,hb,hg,hnc,hcm,hcs,ht⟩
 ·cases h0
 injection hv with a1 a2 a3;injection a1 with a1;injection a1 with a1;subst a1;subst a3
 rw[<-hn] at ht hnc
 have hl:n*21<=cur.size:=by
  have h1:=congrArg List.length ht;rw[List.length_take,Xe YO,Array.length_toList,<-hn] at h1;omega
 refine⟨cur,hg,hn,hl,ht,hb,fun cs ys m h1 h2 h3 h4=>⟨by rw[Xe YO],.inr ⟨g,c,cs,by rw[h3],hb,setRow_heap w g cur cs 44 (0,0) hg,by omega,hcm,by rw[h1,hcs],by rw[h3];exact h4⟩⟩⟩
end
end
section
attribute [local go_sem] Oper.semAt_some
attribute [local go_sem ↓] Qs QG
section
variable {p:Fx->Bool} {xs zs:List Fx} {i j:Nat} {x:Fx}
end
end
section
end
end Go.Proofs.YtokjnjdbnabchaaGreatDoor
