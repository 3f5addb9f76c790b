/- Fk1, Kc, FkI. -/
import Derived.Test.YtbcnkcldlealjaaGreatDoorQGVa39
import Derived.Test.YtbcnkcldlealjaaGreatDoorQGVa31
set_option maxRecDepth 20000
set_option maxHeartbeats 1000000
namespace Go.Proofs.YtbcnkcldlealjaaGreatDoor
open Go.Lib renaming hid→jq
open Go.RowKit Go.Shelf
section
def P2(p:Pk):List Value:=[S p.lot,S p.q]
def PkV(p:Pk):Value:=.agg #[S p.lot,S p.q]
theorem Zim(p:Pk):(P2 p).length=2:=rfl
def O7(o:Opn):List Value:=[S o.other,S o.ratio.n,S o.ratio.d,S o.price.n,S o.price.d,S o.value.n,S o.value.d]
theorem Zin(o:Opn):(O7 o).length=7:=rfl
abbrev Pks(w:World)(B:Nat)(A:Option Addr)(n:Nat)(xs:List Pk):Prop:=Sl P2 2 w B A n xs
abbrev Ops(w:World)(B:Nat)(A:Option Addr)(n:Nat)(xs:List Opn):Prop:=Sl O7 7 w B A n xs
theorem Sl.pk{w:World}{B:Nat}{A:Option Addr}{n:Nat}{xs:List Pk}{i:Nat}(h:Pks w B A n xs)(hi:i<n):
 ∃b off x,A=some ⟨b,off,none⟩/\b<B/\xs[i]?=some x/\w.cell? ⟨b,off+i*2,none⟩=some (.string ⟨x.lot.toArray⟩)/\w.cell? ⟨b,off+i*2+1,none⟩=some (.string ⟨x.q.toArray⟩):=by
 obtain⟨b,off,x,hA,hb,hx,hc⟩:=h.at_ hi
 exact⟨b,off,x,hA,hb,hx,hc 0 _ rfl,hc 1 _ rfl⟩
theorem Sl.opt{w:World}{B:Nat}{A:Option Addr}{n:Nat}{xs:List Opn}{i:Nat}(h:Ops w B A n xs)(hi:i<n):
 ∃b off x,A=some ⟨b,off,none⟩/\b<B/\xs[i]?=some x/\w.cell? ⟨b,off+i*7,none⟩=some (.string ⟨x.other.toArray⟩)/\w.cell? ⟨b,off+i*7+1,none⟩=some (.string ⟨x.ratio.n.toArray⟩)/\w.cell? ⟨b,off+i*7+2,none⟩=some (.string ⟨x.ratio.d.toArray⟩)/\
  w.cell? ⟨b,off+i*7+3,none⟩=some (.string ⟨x.price.n.toArray⟩)/\w.cell? ⟨b,off+i*7+4,none⟩=some (.string ⟨x.price.d.toArray⟩)/\w.cell? ⟨b,off+i*7+5,none⟩=some (.string ⟨x.value.n.toArray⟩)/\w.cell? ⟨b,off+i*7+6,none⟩=some (.string ⟨x.value.d.toArray⟩):=by
 obtain⟨b,off,x,hA,hb,hx,hc⟩:=h.at_ hi
 exact⟨b,off,x,hA,hb,hx,hc 0 _ rfl,hc 1 _ rfl,hc 2 _ rfl,hc 3 _ rfl,hc 4 _ rfl,hc 5 _ rfl,hc 6 _ rfl⟩
structure FaV where
 pA:Option Addr
 pn:Nat
 pc:Nat
 oA:Option Addr
 on:Nat
 oc:Nat
def ftA(f:Fct)(v:FaV):List Value:=
 [S f.key,.int .i64 f.stamp,.bool f.cancelled,.int .i64 f.day,.int .i64 f.kind,S f.inst,S f.other,S f.cur,S f.target,S f.q,S f.amount,S f.fee,S f.price.n,S f.price.d,S f.ratio.n,S f.ratio.d,S f.share.n,S f.share.d,
  .slice v.pA v.pn v.pc,.slice v.oA v.on v.oc,.int .i64 f.choice]
structure FaM (w:World) (B:Nat) (f:Fct) (v:FaV):Prop where
 pk:Pks w B v.pA v.pn f.picks
 op:Ops w B v.oA v.on f.options
 pc:v.pn<=v.pc
theorem FaM.below{w w':World}{B:Nat}{f:Fct}{v:FaV}(h:FaM w B f v)(hb:Below B w w'):FaM w' B f v:=⟨h.pk.below hb,h.op.below hb,h.pc⟩
theorem FaM.more{w:World}{B B':Nat}{f:Fct}{v:FaV}(h:FaM w B f v)(hB:B<=B'):FaM w B' f v:=⟨h.pk.more hB,h.op.more hB,h.pc⟩
theorem FaM.here{w w':World}{f:Fct}{v:FaV}(h:FaM w w.1.size f v)(hb:Below w.1.size w w'):FaM w' w'.1.size f v:=⟨h.pk.here hb,h.op.here hb,h.pc⟩
def Jd(n:Int):Prop:= -9223372036854775808<=n/\n<=9223372036854775807
structure Pk.Sz (L:Nat) (p:Pk):Prop where
 lot:p.lot.length<=L
 q:p.q.length<=L
structure Opn.Sz (L:Nat) (o:Opn):Prop where
 other:o.other.length<=L
 ratio:o.ratio.Sz L
 price:o.price.Sz L
 value:o.value.Sz L
structure Fct.Sz (L:Nat) (f:Fct):Prop where
 key:f.key.length<=L
 inst:f.inst.length<=L
 other:f.other.length<=L
 cur:f.cur.length<=L
 target:f.target.length<=L
 q:f.q.length<=L
 amount:f.amount.length<=L
 fee:f.fee.length<=L
 price:f.price.Sz L
 ratio:f.ratio.Sz L
 share:f.share.Sz L
 picks:∀p∈f.picks,p.Sz L
 options:∀o∈f.options,o.Sz L
 stamp:Jd f.stamp
 day:Jd f.day
 kind:Jd f.kind
 choice:Jd f.choice
end
section
def kB(word:List UInt8)(cls:Int)(p:Nat->Bool)(mv:Value)(code:Bool):Array Value:=
 #[.string ⟨word.toArray⟩,.int .i64 cls,.bool (p 0),.bool (p 1),.bool (p 2),.bool (p 3),.bool (p 4),.bool (p 5),.bool (p 6),.bool (p 7),.bool (p 8),.bool (p 9),.bool (p 10),.bool (p 11),.bool (p 12),mv,.bool code]
theorem Zhi(word:List UInt8)(cls:Int)(p:Nat->Bool)(mv:Value)(code:Bool):(kB word cls p mv code).size=17:=rfl
theorem ZbA(word:List UInt8)(cls:Int)(p:Nat->Bool)(mv:Value)(code:Bool)(i:Nat)(hi:i<=12):(kB word cls p mv code)[2+i]?=some (.bool (p i)):=by
 match i,hi with
 |0,_=>rfl|1,_=>rfl|2,_=>rfl|3,_=>rfl|4,_=>rfl|5,_=>rfl|6,_=>rfl|7,_=>rfl|8,_=>rfl|9,_=>rfl|10,_=>rfl|11,_=>rfl|12,_=>rfl
theorem Zc8(word:List UInt8)(cls:Int)(p:Nat->Bool)(mv:Value)(code:Bool)(i:Nat)(hi:i<=12):(kB word cls p mv code).setIfInBounds (2+i) (.bool true)=kB word cls (fun j=>if j==i then true else p j) mv code:=by
 match i,hi with
 |0,_=>rfl|1,_=>rfl|2,_=>rfl|3,_=>rfl|4,_=>rfl|5,_=>rfl|6,_=>rfl|7,_=>rfl|8,_=>rfl|9,_=>rfl|10,_=>rfl|11,_=>rfl|12,_=>rfl
theorem XT{word:List UInt8}{cls:Int}{p q:Nat->Bool}{mv:Value}{code:Bool}(h:∀i,i<=12->p i=q i):kB word cls p mv code=kB word cls q mv code:=by
 unfold kB;rw[h 0 (by omega),h 1 (by omega),h 2 (by omega),h 3 (by omega),h 4 (by omega),h 5 (by omega),h 6 (by omega),h 7 (by omega),h 8 (by omega),h 9 (by omega),h 10 (by omega),h 11 (by omega),h 12 (by omega)]
theorem Yw(word:List UInt8)(cls:Int)(p:Nat->Bool)(mv:Value)(code:Bool)(h:mv.oneCell'=true):(kB word cls p mv code).all (·.oneCell')=true:=by
 rw[Array.all_eq_true_iff_forall_mem];intro x hx;simp only[kB,List.mem_toArray,List.mem_cons,List.mem_nil_iff,or_false] at hx
 rcases hx with rfl|rfl|rfl|rfl|rfl|rfl|rfl|rfl|rfl|rfl|rfl|rfl|rfl|rfl|rfl|rfl|rfl<;>first|exact h|rfl
def Qb(f:Fct)(v:FaV):Array Value:=
 #[.string ⟨f.key.toArray⟩,.int .i64 f.stamp,.bool f.cancelled,.int .i64 f.day,.int .i64 f.kind,.string ⟨f.inst.toArray⟩,.string ⟨f.other.toArray⟩,.string ⟨f.cur.toArray⟩,.string ⟨f.target.toArray⟩,.string ⟨f.q.toArray⟩,.string ⟨f.amount.toArray⟩,.string ⟨f.fee.toArray⟩,
  .string ⟨f.price.n.toArray⟩,.string ⟨f.price.d.toArray⟩,.string ⟨f.ratio.n.toArray⟩,.string ⟨f.ratio.d.toArray⟩,.string ⟨f.share.n.toArray⟩,.string ⟨f.share.d.toArray⟩,.slice v.pA v.pn v.pc,.slice v.oA v.on v.oc,.int .i64 f.choice]
theorem ZbB(f:Fct)(v:FaV):(ftA f v).toArray=Qb f v:=rfl
theorem Qe(f:Fct)(v:FaV):(Qb f v).size=21:=rfl
def ldK(v:Value):Sem Value:=Instr.loadAt 87 v
theorem YM(v:Value):Instr.loadAt 87 v=ldK v:=rfl
theorem JN{w:World}{g:Nat}{pb:Array Value}(hg:BlkB w g pb 87)(hs:pb.size=17):(ldK (.pointer (some ⟨g,0,none⟩))).run Tryz.prog w=.ok (.agg pb) w:=by
 have e:=run_loadVar_row (P:=Tryz.prog) w g 87 87 pb (0,0) _ hg Tryz.underlying87 rfl (by rw[hs];kernel_rfl);unfold ldK;simp only[Instr.loadAt,Instr.sureAddr,Sem.run_bind,Sem.run_pure,Result.andThen_ok,e]
def stK(a v:Value):Sem Unit:=Instr.storeAt 87 a v
theorem Zad(a v:Value):Instr.storeAt 87 a v=stK a v:=rfl
theorem Yx{w:World}{g:Nat}{old pb:Array Value}(hg:BlkB w g old 87)(ho:old.size=17)(hs:pb.size=17)(h1:pb.all (·.oneCell')=true):(stK (.pointer (some ⟨g,0,none⟩)) (.agg pb)).run Tryz.prog w=.ok () (w.setRow g pb):=by
 have e:=run_storeVar_row (P:=Tryz.prog) w g 87 87 old pb hg (by rw[hs];kernel_rfl) (by rw[ho,hs]) h1;unfold stK;simp only[Instr.storeAt,Instr.sureAddr,Sem.run_bind,Sem.run_pure,Result.andThen_ok,e]
def ldF(v:Value):Sem Value:=Instr.loadAt 44 v
theorem Qr(v:Value):Instr.loadAt 44 v=ldF v:=rfl
theorem Qm{w:World}{g:Nat}{pb:Array Value}(hg:BlkB w g pb 44)(hs:pb.size=21):(ldF (.pointer (some ⟨g,0,none⟩))).run Tryz.prog w=.ok (.agg pb) w:=by
 have e:=run_loadVar_row (P:=Tryz.prog) w g 44 44 pb (0,0) _ hg Tryz.underlying44 rfl (by rw[hs];kernel_rfl);unfold ldF;simp only[Instr.loadAt,Instr.sureAddr,Sem.run_bind,Sem.run_pure,Result.andThen_ok,e]
end
section
theorem Zcs(g:Nat)(cb:Array Value)(p:Pk->Bool)(A:Option Addr)(n c:Nat)(xs:List Pk)(w:World)(eg:∀args w,(callFunc g args).run Tryz.prog w=.ok (.enter g args) w)
 (hp:∀(W:World) (x:Pk),x∈xs->Below w.1.size w W->Calls Tryz.prog g (#[PkV x]++cb) W fun e w'=>e=.returned (.bool (p x))/\Below W.1.size W w') (hr:Sl P2 2 w w.1.size A n xs) (hn:n<=1000000000):
 Calls Tryz.prog 176 #[.slice A n c,.func (.func g) #[] cb] w fun e w'=>e=.returned (.int .i64 (JI p xs))/\Below w.1.size w w':=by
 have HPR:=jq hp;have HR:=jq hr;clear hp hr;go_enter Tryz.func176,Tryz.ntmps176
 go_wp2
 go_loopw [5,8] (fun _ i wr=>∃j:Nat,j<=n/\i=.int .i64 j/\Hid ((xs.take j).any p=false)/\Below w.1.size w wr) (fun _ i _=>n-(intOf i).toNat)
 case atStart=>exact⟨0,Nat.zero_le _,rfl,by show _=_;simp,Below.refl _ _⟩
 case round=>
  obtain⟨j,hj,rfl,HN,hb⟩:=hrel
  by_cases hlt:j<n
  ·obtain⟨b,off,r,rfl,hbl,hxj,hd⟩:=(HR.out.below hb).at_ hlt
   have d0:wr.cell? ⟨b,off+j*2,none⟩=some (.string ⟨r.lot.toArray⟩):=hd 0 _ rfl;have d1:wr.cell? ⟨b,off+j*2+1,none⟩=some (.string ⟨r.q.toArray⟩):=hd 1 _ rfl;have HX:=jq hxj;have hcall:=HPR.out wr r (List.mem_of_getElem? hxj) hb;unfold PkV S at hcall;clear hxj hd;have HC:=jq hcall;clear hcall
   cases hq:p r with
   |true=>
    rw[hq] at HC;have HQ:=jq hq;clear hq;go_wp2_with (go_at_fn g;refine(HC.out).mono ?_;rintro e w' ⟨rfl,hb'⟩)
    go_ret
    exact⟨Qa (Zb6 HX.out HQ.out HN.out).symm,hb.trans (hb'.mono hb.size)⟩
   |false=>
    rw[hq] at HC;have HQ:=jq hq;clear hq;go_wp2_with (go_at_fn g;refine(HC.out).mono ?_;rintro e w' ⟨rfl,hb'⟩)
    go_roundw
    case rel=>exact⟨j+1,by omega,by go_num,VV HX.out HN.out HQ.out,hb.trans (hb'.mono hb.size)⟩
    case measure=>simp[intOf];omega
  ·go_wp2
   go_ret
   exact⟨Qa (VU (by have:=HN.out;rwa [List.take_of_length_le (by have:=HR.out.1;omega)] at this)).symm,hb⟩
theorem Zar(g:Nat)(cb:Array Value)(p:Pk->Bool)(A:Option Addr)(n c:Nat)(xs:List Pk)(w:World)(eg:∀args w,(callFunc g args).run Tryz.prog w=.ok (.enter g args) w)
 (hp:∀(W:World) (x:Pk),x∈xs->Below w.1.size w W->Calls Tryz.prog g (#[PkV x]++cb) W fun e w'=>e=.returned (.bool (p x))/\Below W.1.size W w') (hr:Sl P2 2 w w.1.size A n xs) (hn:n<=1000000000):
 Calls Tryz.prog 137 #[.slice A n c,.func (.func g) #[] cb] w fun e w'=>e=.returned (.bool (xs.any p))/\Below w.1.size w w':=by
 have H:=jq (Zcs g cb p A n c xs w eg hp hr hn);clear hp eg hr;have e:=Zb7 p xs;generalize JI p xs=z at*;have E:=jq e;clear e;go_enter Tryz.func137,Tryz.ntmps137
 go_wp2_with (go_at_call 176;refine(H.out).mono ?_;rintro e w' ⟨rfl,hb'⟩)
 go_ret
 exact⟨Qy E.out,hb'⟩
end
end Go.Proofs.YtbcnkcldlealjaaGreatDoor
