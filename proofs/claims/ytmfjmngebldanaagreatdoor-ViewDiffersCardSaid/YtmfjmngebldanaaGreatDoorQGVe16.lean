/- Fk1, Kc, Lv, Lof, Lg, Nm, Lt1, Fa1, FkI, RNm. -/
import Derived.Test.YtmfjmngebldanaaGreatDoorQGVe38
import Derived.Test.YtmfjmngebldanaaGreatDoorQGVe32
import Derived.Laws.IdiomStrings
import Derived.OwnWalk
set_option maxRecDepth 20000
set_option maxHeartbeats 1000000
namespace Go.Proofs.YtmfjmngebldanaaGreatDoor
open Go.Lib renaming hid→jq
open Go.RowKit Go.Shelf
section
def P2(p:Pk):List Value:=[S p.lot,S p.q]
def PkV(p:Pk):Value:=.agg #[S p.lot,S p.q]
theorem ZmT(p:Pk):(P2 p).length=2:=rfl
def O7(o:Opn):List Value:=[S o.other,S o.ratio.n,S o.ratio.d,S o.price.n,S o.price.d,S o.value.n,S o.value.d]
theorem ZmU(o:Opn):(O7 o).length=7:=rfl
abbrev Pks(w:World)(B:Nat)(A:Option Addr)(n:Nat)(xs:List Pk):Prop:=Sl P2 2 w B A n xs
abbrev Ops(w:World)(B:Nat)(A:Option Addr)(n:Nat)(xs:List Opn):Prop:=Sl O7 7 w B A n xs
theorem Sl.pk{w:World}{B:Nat}{A:Option Addr}{n:Nat}{xs:List Pk}{i:Nat}(h:Pks w B A n xs)(hi:i<n):
 ∃b off x,A=some ⟨b,off,none⟩/\b<B/\xs[i]?=some x/\w.cell? ⟨b,off+i*2,none⟩=some (.string ⟨x.lot.toArray⟩)/\w.cell? ⟨b,off+i*2+1,none⟩=some (.string ⟨x.q.toArray⟩):=by
 obtain⟨b,off,x,hA,hb,hx,hc⟩:=h.at_ hi
 exact⟨b,off,x,hA,hb,hx,hc 0 _ rfl,hc 1 _ rfl⟩
theorem Sl.opt{w:World}{B:Nat}{A:Option Addr}{n:Nat}{xs:List Opn}{i:Nat}(h:Ops w B A n xs)(hi:i<n):
 ∃b off x,A=some ⟨b,off,none⟩/\b<B/\xs[i]?=some x/\w.cell? ⟨b,off+i*7,none⟩=some (.string ⟨x.other.toArray⟩)/\w.cell? ⟨b,off+i*7+1,none⟩=some (.string ⟨x.ratio.n.toArray⟩)/\w.cell? ⟨b,off+i*7+2,none⟩=some (.string ⟨x.ratio.d.toArray⟩)/\
  w.cell? ⟨b,off+i*7+3,none⟩=some (.string ⟨x.price.n.toArray⟩)/\w.cell? ⟨b,off+i*7+4,none⟩=some (.string ⟨x.price.d.toArray⟩)/\w.cell? ⟨b,off+i*7+5,none⟩=some (.string ⟨x.value.n.toArray⟩)/\w.cell? ⟨b,off+i*7+6,none⟩=some (.string ⟨x.value.d.toArray⟩):=by
 obtain⟨b,off,x,hA,hb,hx,hc⟩:=h.at_ hi
 exact⟨b,off,x,hA,hb,hx,hc 0 _ rfl,hc 1 _ rfl,hc 2 _ rfl,hc 3 _ rfl,hc 4 _ rfl,hc 5 _ rfl,hc 6 _ rfl⟩
structure FaV where
 pA:Option Addr
 pn:Nat
 pc:Nat
 oA:Option Addr
 on:Nat
 oc:Nat
def ftA(f:Fct)(v:FaV):List Value:=
 [S f.key,.int .i64 f.stamp,.bool f.cancelled,.int .i64 f.day,.int .i64 f.kind,S f.inst,S f.other,S f.cur,S f.target,S f.q,S f.amount,S f.fee,S f.price.n,S f.price.d,S f.ratio.n,S f.ratio.d,S f.share.n,S f.share.d,
  .slice v.pA v.pn v.pc,.slice v.oA v.on v.oc,.int .i64 f.choice]
structure FaM (w:World) (B:Nat) (f:Fct) (v:FaV):Prop where
 pk:Pks w B v.pA v.pn f.picks
 op:Ops w B v.oA v.on f.options
 pc:v.pn<=v.pc
theorem FaM.below{w w':World}{B:Nat}{f:Fct}{v:FaV}(h:FaM w B f v)(hb:Below B w w'):FaM w' B f v:=⟨h.pk.below hb,h.op.below hb,h.pc⟩
theorem FaM.more{w:World}{B B':Nat}{f:Fct}{v:FaV}(h:FaM w B f v)(hB:B<=B'):FaM w B' f v:=⟨h.pk.more hB,h.op.more hB,h.pc⟩
theorem FaM.here{w w':World}{f:Fct}{v:FaV}(h:FaM w w.1.size f v)(hb:Below w.1.size w w'):FaM w' w'.1.size f v:=⟨h.pk.here hb,h.op.here hb,h.pc⟩
def I64(n:Int):Prop:= -9223372036854775808<=n/\n<=9223372036854775807
structure Pk.Sz (L:Nat) (p:Pk):Prop where
 lot:p.lot.length<=L
 q:p.q.length<=L
structure Opn.Sz (L:Nat) (o:Opn):Prop where
 other:o.other.length<=L
 ratio:o.ratio.Sz L
 price:o.price.Sz L
 value:o.value.Sz L
structure Fct.Sz (L:Nat) (f:Fct):Prop where
 key:f.key.length<=L
 inst:f.inst.length<=L
 other:f.other.length<=L
 cur:f.cur.length<=L
 target:f.target.length<=L
 q:f.q.length<=L
 amount:f.amount.length<=L
 fee:f.fee.length<=L
 price:f.price.Sz L
 ratio:f.ratio.Sz L
 share:f.share.Sz L
 picks:∀p∈f.picks,p.Sz L
 options:∀o∈f.options,o.Sz L
 stamp:I64 f.stamp
 day:I64 f.day
 kind:I64 f.kind
 choice:I64 f.choice
end
section
def kB(word:List UInt8)(cls:Int)(p:Nat->Bool)(mv:Value)(code:Bool):Array Value:=
 #[.string ⟨word.toArray⟩,.int .i64 cls,.bool (p 0),.bool (p 1),.bool (p 2),.bool (p 3),.bool (p 4),.bool (p 5),.bool (p 6),.bool (p 7),.bool (p 8),.bool (p 9),.bool (p 10),.bool (p 11),.bool (p 12),mv,.bool code]
theorem Zlo(word:List UInt8)(cls:Int)(p:Nat->Bool)(mv:Value)(code:Bool):(kB word cls p mv code).size=17:=rfl
theorem ZdO(word:List UInt8)(cls:Int)(p:Nat->Bool)(mv:Value)(code:Bool)(i:Nat)(hi:i<=12):(kB word cls p mv code)[2+i]?=some (.bool (p i)):=by
 match i,hi with
 |0,_=>rfl|1,_=>rfl|2,_=>rfl|3,_=>rfl|4,_=>rfl|5,_=>rfl|6,_=>rfl|7,_=>rfl|8,_=>rfl|9,_=>rfl|10,_=>rfl|11,_=>rfl|12,_=>rfl
theorem ZfK(word:List UInt8)(cls:Int)(p:Nat->Bool)(mv:Value)(code:Bool)(i:Nat)(hi:i<=12):(kB word cls p mv code).setIfInBounds (2+i) (.bool true)=kB word cls (fun j=>if j==i then true else p j) mv code:=by
 match i,hi with
 |0,_=>rfl|1,_=>rfl|2,_=>rfl|3,_=>rfl|4,_=>rfl|5,_=>rfl|6,_=>rfl|7,_=>rfl|8,_=>rfl|9,_=>rfl|10,_=>rfl|11,_=>rfl|12,_=>rfl
theorem YO{word:List UInt8}{cls:Int}{p q:Nat->Bool}{mv:Value}{code:Bool}(h:∀i,i<=12->p i=q i):kB word cls p mv code=kB word cls q mv code:=by
 unfold kB;rw[h 0 (by omega),h 1 (by omega),h 2 (by omega),h 3 (by omega),h 4 (by omega),h 5 (by omega),h 6 (by omega),h 7 (by omega),h 8 (by omega),h 9 (by omega),h 10 (by omega),h 11 (by omega),h 12 (by omega)]
theorem VB(word:List UInt8)(cls:Int)(p:Nat->Bool)(mv:Value)(code:Bool)(h:mv.oneCell'=true):(kB word cls p mv code).all (·.oneCell')=true:=by
 rw[Array.all_eq_true_iff_forall_mem];intro x hx;simp only[kB,List.mem_toArray,List.mem_cons,List.mem_nil_iff,or_false] at hx
 rcases hx with rfl|rfl|rfl|rfl|rfl|rfl|rfl|rfl|rfl|rfl|rfl|rfl|rfl|rfl|rfl|rfl|rfl<;>first|exact h|rfl
def Qb(f:Fct)(v:FaV):Array Value:=
 #[.string ⟨f.key.toArray⟩,.int .i64 f.stamp,.bool f.cancelled,.int .i64 f.day,.int .i64 f.kind,.string ⟨f.inst.toArray⟩,.string ⟨f.other.toArray⟩,.string ⟨f.cur.toArray⟩,.string ⟨f.target.toArray⟩,.string ⟨f.q.toArray⟩,.string ⟨f.amount.toArray⟩,.string ⟨f.fee.toArray⟩,
  .string ⟨f.price.n.toArray⟩,.string ⟨f.price.d.toArray⟩,.string ⟨f.ratio.n.toArray⟩,.string ⟨f.ratio.d.toArray⟩,.string ⟨f.share.n.toArray⟩,.string ⟨f.share.d.toArray⟩,.slice v.pA v.pn v.pc,.slice v.oA v.on v.oc,.int .i64 f.choice]
theorem ZbV(f:Fct)(v:FaV):(ftA f v).toArray=Qb f v:=rfl
theorem Qg(f:Fct)(v:FaV):(Qb f v).size=21:=rfl
def ldK(v:Value):Sem Value:=Instr.loadAt 104 v
theorem VV(v:Value):Instr.loadAt 104 v=ldK v:=rfl
theorem ZbB{w:World}{g:Nat}{pb:Array Value}(hg:BlkB w g pb 104)(hs:pb.size=17):(ldK (.pointer (some ⟨g,0,none⟩))).run Tryz.prog w=.ok (.agg pb) w:=by
 have e:=run_loadVar_row (P:=Tryz.prog) w g 104 104 pb (0,0) _ hg Tryz.underlying104 rfl (by rw[hs];kernel_rfl);unfold ldK;simp only[Instr.loadAt,Instr.sureAddr,Sem.run_bind,Sem.run_pure,Result.andThen_ok,e]
def stK(a v:Value):Sem Unit:=Instr.storeAt 104 a v
theorem ZbW(a v:Value):Instr.storeAt 104 a v=stK a v:=rfl
theorem VC{w:World}{g:Nat}{old pb:Array Value}(hg:BlkB w g old 104)(ho:old.size=17)(hs:pb.size=17)(h1:pb.all (·.oneCell')=true):(stK (.pointer (some ⟨g,0,none⟩)) (.agg pb)).run Tryz.prog w=.ok () (w.setRow g pb):=by
 have e:=run_storeVar_row (P:=Tryz.prog) w g 104 104 old pb hg (by rw[hs];kernel_rfl) (by rw[ho,hs]) h1;unfold stK;simp only[Instr.storeAt,Instr.sureAddr,Sem.run_bind,Sem.run_pure,Result.andThen_ok,e]
def Vj(v:Value):Sem Value:=Instr.loadAt 43 v
theorem Ql(v:Value):Instr.loadAt 43 v=Vj v:=rfl
theorem Qj{w:World}{g:Nat}{pb:Array Value}(hg:BlkB w g pb 43)(hs:pb.size=21):(Vj (.pointer (some ⟨g,0,none⟩))).run Tryz.prog w=.ok (.agg pb) w:=by
 have e:=run_loadVar_row (P:=Tryz.prog) w g 43 43 pb (0,0) _ hg Tryz.underlying43 rfl (by rw[hs];kernel_rfl);unfold Vj;simp only[Instr.loadAt,Instr.sureAddr,Sem.run_bind,Sem.run_pure,Result.andThen_ok,e]
end
section
def L7(l:Lot):List Value:=[S l.id,S l.inst,.int .i64 l.acq,.int .i64 l.opn,S l.q,S l.c,S l.u]
structure Lot.Sz (L:Nat) (l:Lot):Prop where
 id:l.id.length<=L
 inst:l.inst.length<=L
 q:l.q.length<=L
 c:l.c.length<=L
 u:l.u.length<=L
 a1: -9223372036854775808<=l.acq
 a2:l.acq<=9223372036854775807
 o1: -9223372036854775808<=l.opn
 o2:l.opn<=9223372036854775807
end
section
attribute [local go_sem] Oper.semAt_some
end
section
structure Lot.Max (x:Lot):Prop where
 id:x.id.length<=maxLen
 inst:x.inst.length<=maxLen
 q:x.q.length<=maxLen
 c:x.c.length<=maxLen
 u:x.u.length<=maxLen
theorem Jy(a:List UInt8)(w:World):Calls Tryz.prog 41 #[S a] w fun e w'=>e=.returned (.bool (decide (13<a.length)))/\w=w':=by
 unfold S;go_enter Tryz.func41,Tryz.ntmps41
 go_wp2_with fail
 go_ret
 refine⟨Qd ?_,rfl⟩;rw[Bool.eq_iff_iff];simp
 omega
end
section
theorem Zdn(b:UInt8):Vn b=true↔(97<=(b.toNat:Int)/\(b.toNat:Int)<=122)\/(48<=(b.toNat:Int)/\(b.toNat:Int)<=57)\/(b.toNat:Int)=95:=by
 unfold Vn;simp only[Bool.or_eq_true,Bool.and_eq_true,decide_eq_true_eq,beq_iff_eq,UInt8.le_iff_toNat_le,<-UInt8.toNat_inj];simp
 omega
theorem ZjU(s:List UInt8)(w:World):∃cap W1,(convert 9 137 (.string ⟨s.toArray⟩)).run Tryz.prog w=.ok (.slice (some ⟨w.1.size,0,none⟩) s.length cap) W1/\Below w.1.size w W1/\W1.1.size=w.1.size+1/\∀(j:Nat) (b:UInt8),s[j]?=some b->W1.cell? ⟨w.1.size,j,none⟩=some (.int .u8 (b.toNat:Int)):=by
 have h:=run_bytes_of_string (P:=Tryz.prog) w 9 137 5 ⟨s.toArray⟩ Tryz.underlying9 Tryz.underlying137 Tryz.underlying5;have hsz:(⟨s.toArray⟩:ByteArray).size=s.length:=Qk s;rw[hsz] at h;generalize grownCap w s.length 0 5=cap at h;refine⟨_,_,h,((Below.refl _ w).drew).alloc (Nat.le_refl _) _,by simp,fun j b hj=> ?_⟩;have hb:=heap_alloc_new w.drew (.cells (bytesRow ⟨s.toArray⟩ cap) 5 ((bytesRow ⟨s.toArray⟩ cap).size,(bytesRow ⟨s.toArray⟩ cap).size+1));refine(cell_of_row _ w.1.size j _ _ _ hb).trans ?_;have hlt:=(List.getElem?_eq_some_iff.1 hj).1;unfold bytesRow;rw[Array.getElem?_append_left (by simpa using hlt),Array.getElem?_map];simp[hj]
theorem Yn{s:List UInt8}{k:Nat}{b:UInt8}(h:s[k]?=some b)(ha:(s.take k).all Vn=true)(hb:Vn b=true):(s.take (k+1)).all Vn=true:=by
 obtain⟨hk,rfl⟩:=List.getElem?_eq_some_iff.1 h
 rw[List.take_succ_eq_append_getElem hk,List.all_append,ha];simp[hb]
theorem Zdo{s:List UInt8}{k:Nat}{b:UInt8}(h:s[k]?=some b)(hb:¬Vn b=true):Qr s=false:=by
 unfold Qr
 have:s.all Vn=false:=by
  rw[List.all_eq_false];exact⟨b,List.mem_of_getElem? h,hb⟩
 rw[this,Bool.and_false]
theorem ZaF(s:List UInt8):Zc4 71 #[S s] (.bool (Qr s)):=by
 intro w hp;have H:=jq (Kp.start hp);have hsz:=Qk s;clear hp
 rcases Nat.eq_zero_or_pos s.length with h0|h0
 ·obtain rfl:s=[]:=List.eq_nil_of_length_eq_zero h0;have HB:=jq (show Qr []=false by rfl);rw[HB.out];clear h0 hsz;unfold S;go_enter Tryz.func71,Tryz.ntmps71
  go_wp2_with fail
  first|go_ret|skip
  exact⟨rfl,H.out.bl⟩
 by_cases h1:16<s.length
 ·have HB:=jq (show Qr s=false by unfold Qr;rw[decide_eq_false (show ¬s.length<=16 by omega)];simp);rw[HB.out];have HSZ:=jq hsz;have hs1:((s.length:Int)==0)=false:=beq_false_of_ne (by omega);have hs2:(16:Int)<(s.length:Int):=by omega
  clear hsz h0 h1;unfold S;go_enter Tryz.func71,Tryz.ntmps71
  go_wp2_with fail
  first|go_ret|skip
  exact⟨rfl,H.out.bl⟩
 obtain⟨cap,W1,hcv,hbW,hszW,hcell⟩:=ZjU s w
 have HCE:=jq hcell;have H1:=jq (H.out.here hbW)
 have HOK:=jq (show s.all Vn=true->Qr s=true by
  intro ha;unfold Qr;rw[ha,decide_eq_true (show s.length<=16 by omega),decide_eq_true (show s≠[] by intro e;rw[e] at h0;simp at h0)];rfl)
 have hs1:((s.length:Int)==0)=false:=beq_false_of_ne (by omega);have hs2:¬(16:Int)<(s.length:Int):=by omega
 obtain⟨n,hn⟩:∃n,s.length=n:=⟨_,rfl⟩
 rw[hn] at hcv;have hn16:n<=16:=by omega
 have HN:=jq hn;clear hcell hbW hszW hsz h0 h1 hn H;unfold S;go_enter Tryz.func71,Tryz.ntmps71
 go_wp2_with fail
 go_loop [16] (fun i=>∃k:Nat,k<=n/\i=.int .i64 k/\Hid ((s.take k).all Vn=true)) (fun i=>n-(intOf i).toNat)
 case atStart=>exact⟨0,Nat.zero_le _,rfl,by show _=_;simp⟩
 case round=>
  obtain⟨k,hk,rfl,HA⟩:=hrel
  by_cases hlt:k<n
  ·obtain⟨b,hb⟩:∃b,s[k]?=some b:=⟨_,List.getElem?_eq_getElem (by have:=HN.out;omega)⟩
   have d0:=HCE.out k b hb;have HB:=jq hb;have HIF:=jq (Zdn b);clear hb
   by_cases h95:(b.toNat:Int)=95
   ·have hx:((b.toNat:Int) !=95)=false:=by simp[h95]
    go_wp2
    all_goals
     go_round
     case rel=>exact⟨k+1,by omega,by go_num,Yn HB.out HA.out (by rw[HIF.out];omega)⟩
     case measure=>simp[intOf];omega
   ·have hx:((b.toNat:Int) !=95)=true:=by simp[h95]
    go_wp2
    all_goals first
     |(go_round
       case rel=>exact⟨k+1,by omega,by go_num,Yn HB.out HA.out (by rw[HIF.out];omega)⟩
       case measure=>simp[intOf];omega)
     |(go_ret
       exact⟨Qd (Zdo HB.out (by rw[HIF.out];omega)).symm,H1.out.bl⟩)
  ·go_wp2
   go_ret
   exact⟨Qd (HOK.out (by have:=HA.out;rwa [List.take_of_length_le (by have:=HN.out;omega)] at this)).symm,H1.out.bl⟩
end
section
theorem Zhd(l:List UInt8)(a b:Nat):(⟨l.toArray⟩:ByteArray).extract a b=⟨((l.take b).drop a).toArray⟩:=by
 apply ByteArray.ext
 rw[ByteArray.data_extract,List.extract_toArray,List.extract_eq_take_drop,List.drop_take]
theorem Zh2(s:List UInt8)(hs:s.length<=1000000000):Zc4 202 #[S s,.string ⟨#[47]⟩] (.tuple #[S (YC s),S (VT s),.bool (decide (47∈s))]):=by
 intro w hp;have H:=jq (Kp.start hp);have HIX:=jq (fun W=>Tryz.stringslite_Index_one ⟨s.toArray⟩ 47 W);rw[show(⟨s.toArray⟩:ByteArray).data.toList=s from rfl] at HIX;obtain⟨i1,i2⟩:=Zc8 s
 have hsz:=Qk s;clear hp
 by_cases h:47∈s
 ·obtain⟨a1,a2,a3,a4⟩:=i1 h
  rw[a1] at HIX;rw[decide_eq_true h];have HN:=jq (show(⟨s.toArray⟩:ByteArray).extract 0 (YC s).length=⟨(YC s).toArray⟩ by rw[Zhd,a3];rfl);have HR:=jq (show(⟨s.toArray⟩:ByteArray).extract ((YC s).length+1) s.length=⟨(VT s).toArray⟩ by rw[Zhd,List.take_length,a4]);generalize hk:(YC s).length=k at*;have hb1:k<(⟨s.toArray⟩:ByteArray).size:=by rw[hsz];exact a2
  have hb2:(⟨s.toArray⟩:ByteArray).size<=1000000000:=by rw[hsz];exact hs
  clear i1 i2 h a1 a2 a3 a4 hk hsz hs;unfold S;go_enter Tryz.func202,Tryz.ntmps202
  go_wp2_with fail
  refine(HIX.out _).mono ?_;rintro e w1 ⟨rfl,rfl⟩;go_upto_region 3 with (fail)
  go_region
  all_goals
   go_wp2_with fail
   go_ret3
   rw[HN.out,HR.out];exact⟨rfl,H.out.bl.drew⟩
 ·obtain⟨a1,a2,a3⟩:=i2 h
  rw[a1] at HIX;rw[decide_eq_false h,a2,a3];clear i1 i2 h a1 a2 a3 hsz hs;unfold S;go_enter Tryz.func202,Tryz.ntmps202
  go_wp2_with fail
  refine(HIX.out _).mono ?_;rintro e w1 ⟨rfl,rfl⟩;go_wp2_with fail
  first|go_ret3|skip
  exact⟨rfl,H.out.bl⟩
theorem ZjW(s:List UInt8)(hs:s.length<=1000000000):Zc4 174 #[S s,.string ⟨#[47]⟩] (.tuple #[S (YC s),S (VT s),.bool (decide (47∈s))]):=by
 intro w hp;have H:=jq (Kp.start hp);have HC:=jq (Zh2 s hs);clear hp hs;generalize YC s=a at*;generalize VT s=b at*;generalize decide (47∈s)=bb at*;unfold S at*
 go_enter Tryz.func174,Tryz.ntmps174
 go_wp2_with fail
 refine(HC.out _ H.out.pw).mono ?_;rintro e w1 ⟨rfl,hb⟩;go_wp2_with fail
 first|go_ret3|skip
 exact⟨rfl,(H.out.here hb).bl⟩
end
section
def ZjX:List UInt8:=[65,66,67,68,69,70,71,72,73,74,75,76,77,78,79,80,81,82,83,84,85,86,87,88,89,90]
theorem ZaG{p:UInt8->Bool}:∀l:List UInt8,l.dropWhile p=[]↔l.all p=true
 |[]=>by simp
 |b::l=>by
  rw[List.dropWhile_cons,List.all_cons]
  cases h:p b
  ·simp
  ·simp[ZaG l]
theorem ZjY(l cs:List UInt8):(Lib.trimS l cs==[])=l.all (cs.contains ·):=by
 rw[Bool.eq_iff_iff,beq_iff_eq];unfold Lib.trimS Lib.trimLeftS Lib.trimRightS;rw[ZaG,List.all_reverse]
 constructor
 ·intro h
  by_cases e:l.reverse.dropWhile (cs.contains ·)=[]
  ·rw[ZaG,List.all_reverse] at e;exact e
  ·exfalso
   obtain⟨b,t,e2⟩:=List.exists_cons_of_ne_nil e
   rw[e2,List.all_cons] at h;have h1:cs.contains b=true:=by simp only[Bool.and_eq_true] at h;exact h.1
   have h2:=List.head_dropWhile_not (fun x=>cs.contains x) (l:=l.reverse) e;simp only[e2,List.head_cons] at h2;rw[h1] at h2
   cases h2
 ·intro h;rw[<-List.all_reverse,<-ZaG] at h;rw[h];rfl
theorem ZlN(b:UInt8):ZjX.contains b=(decide (65<=b.toNat)&&decide (b.toNat<=90)):=by
 have h:∀n,n<256->ZjX.contains (UInt8.ofNat n)=(decide (65<=n)&&decide (n<=90)):=by decide+kernel
 have:=h b.toNat b.toNat_lt
 rwa [UInt8.ofNat_toNat] at this
theorem Zh3(s:List UInt8):Yq s=(s.length==3&&(Lib.trimS s ZjX==[])):=by
 unfold Yq;rw[ZjY]
 congr 2
 funext b
 exact(ZlN b).symm
theorem Zch(s:List UInt8)(hs:s.length<=1000000):Zc4 112 #[S s] (.bool (Yq s)):=by
 intro w hp;have H:=jq (Kp.start hp);have HT:=jq (fun W=>Any.strings_Trim_laid Tryz.lays160 (by kernel_rfl) ⟨s.toArray⟩ ⟨#[65,66,67,68,69,70,71,72,73,74,75,76,77,78,79,80,81,82,83,84,85,86,87,88,89,90]⟩ W (by rw[Qk];omega) (by decide) (ascii_of_all (by decide)));rw[show(⟨s.toArray⟩:ByteArray).data.toList=s from rfl,show(⟨#[65,66,67,68,69,70,71,72,73,74,75,76,77,78,79,80,81,82,83,84,85,86,87,88,89,90]⟩:ByteArray).data.toList=ZjX from rfl] at HT;have hsz:=Qk s;rw[Zh3];clear hp
 by_cases h3:s.length=3
 ·have e3:((s.length:Int)==3)=true:=by rw[h3];rfl
  have e3':(s.length==3)=true:=by rw[h3];rfl
  rw[e3',Bool.true_and];clear h3 e3';generalize Lib.trimS s ZjX=t at*
  cases ht:(t==[])
  all_goals
   unfold S;go_enter Tryz.func112,Tryz.ntmps112
   go_wp2_with fail
   refine(HT.out _).mono ?_;rintro e w1 ⟨rfl,hb⟩;replace H:=jq (H.out.here hb);clear hb;go_wp2_with fail
   first|go_ret|skip
   exact⟨rfl,H.out.bl⟩
 ·have e3:((s.length:Int)==3)=false:=beq_false_of_ne (by omega);have e3':(s.length==3)=false:=beq_false_of_ne h3;rw[e3',Bool.false_and];clear h3 e3' HT;unfold S;go_enter Tryz.func112,Tryz.ntmps112
  go_wp2_with fail
  first|go_ret|skip
  exact⟨rfl,H.out.bl⟩
theorem Zh4(s:List UInt8)(hs:s.length<=1000000):Zc4 142 #[S s] (.bool (idB s)):=by
 intro w hp;have H:=jq (Kp.start hp);have HC:=jq (ZjW s (by omega));have HB:=jq (Zi3 s);rw[HB.out,ZhG]
 have hrl:(VT s).length<=s.length:=by
  unfold VT;rw[List.length_drop];have:=(List.dropWhile_suffix (fun x:UInt8=>x !=47) (l:=s)).length_le
  omega
 have HNM:=jq (ZaF (YC s));generalize YC s=a at*;generalize VT s=r at*;generalize decide (47∈s)=bb at*;generalize Qr a=nb at*;have hrs:=Qk r;clear HB
 rcases ha:Lib.atoiAll r with v|_|_
 ·have HA:=jq (fun W=>(Tryz.strconv_Atoi_ok ⟨r.toArray⟩ (by rw[hrs];omega) v ha W).mono (R':=fun(e:Ending) (w':World)=>e=Ending.returned (.tuple #[.int .i64 v,.nilIface])/\Below W.1.size W w') (by
   rintro e w' ⟨he,rfl|⟨t,rfl⟩⟩
   ·exact⟨he,Below.refl _ _⟩
   ·exact⟨he,Lib.bytesWorld_below _ _ _⟩))
  obtain⟨v1,v2⟩:=Lib.atoiAll_bounds ha
  have HI:=jq (fun W (hp:Env W)=>ZjV v v1 v2 W hp.pow);clear ha hs hrl hrs hp;simp only;generalize Lib.itoa v=iv at*
  cases nb with
  |false=>
   rw[Bool.and_false];clear HI;unfold S at*
   go_enter Tryz.func142,Tryz.ntmps142
   go_wp2_with fail
   refine(HC.out _ H.out.pw).mono ?_;rintro e w1 ⟨rfl,hb⟩;replace H:=jq (H.out.here hb);clear hb;go_wp2_with fail
   refine(HA.out _).mono ?_;rintro e w2 ⟨rfl,hb⟩;replace H:=jq (H.out.here hb);clear hb;go_wp2_with fail
   refine(HNM.out _ H.out.pw).mono ?_;rintro e w3 ⟨rfl,hb⟩;replace H:=jq (H.out.here hb);clear hb;go_wp2_with fail
   first|go_ret|skip
   exact⟨rfl,H.out.bl⟩
  |true=>
   rw[Bool.and_true]
   by_cases h1:1<=v
   ·by_cases h2:v<=9999
    ·rw[decide_eq_true h1,decide_eq_true h2,Bool.true_and,Bool.true_and]
     cases h3:(iv==r)
     all_goals
      unfold S at*
      go_enter Tryz.func142,Tryz.ntmps142
      go_wp2_with fail
      refine(HC.out _ H.out.pw).mono ?_;rintro e w1 ⟨rfl,hb⟩;replace H:=jq (H.out.here hb);clear hb;go_wp2_with fail
      refine(HA.out _).mono ?_;rintro e w2 ⟨rfl,hb⟩;replace H:=jq (H.out.here hb);clear hb;go_wp2_with fail
      refine(HNM.out _ H.out.pw).mono ?_;rintro e w3 ⟨rfl,hb⟩;replace H:=jq (H.out.here hb);clear hb;go_wp2_with fail
      refine(HI.out _ H.out.pw).mono ?_;rintro e w4 ⟨rfl,hb⟩;replace H:=jq (H.out.here hb);clear hb;go_wp2_with fail
      first|go_ret|skip
      exact⟨rfl,H.out.bl⟩
    ·rw[decide_eq_true h1,decide_eq_false h2,Bool.true_and,Bool.false_and];unfold S at*
     go_enter Tryz.func142,Tryz.ntmps142
     go_wp2_with fail
     refine(HC.out _ H.out.pw).mono ?_;rintro e w1 ⟨rfl,hb⟩;replace H:=jq (H.out.here hb);clear hb;go_wp2_with fail
     refine(HA.out _).mono ?_;rintro e w2 ⟨rfl,hb⟩;replace H:=jq (H.out.here hb);clear hb;go_wp2_with fail
     refine(HNM.out _ H.out.pw).mono ?_;rintro e w3 ⟨rfl,hb⟩;replace H:=jq (H.out.here hb);clear hb;go_wp2_with fail
     first|go_ret|skip
     exact⟨rfl,H.out.bl⟩
   ·rw[decide_eq_false h1,Bool.false_and];unfold S at*
    go_enter Tryz.func142,Tryz.ntmps142
    go_wp2_with fail
    refine(HC.out _ H.out.pw).mono ?_;rintro e w1 ⟨rfl,hb⟩;replace H:=jq (H.out.here hb);clear hb;go_wp2_with fail
    refine(HA.out _).mono ?_;rintro e w2 ⟨rfl,hb⟩;replace H:=jq (H.out.here hb);clear hb;go_wp2_with fail
    refine(HNM.out _ H.out.pw).mono ?_;rintro e w3 ⟨rfl,hb⟩;replace H:=jq (H.out.here hb);clear hb;go_wp2_with fail
    first|go_ret|skip
    exact⟨rfl,H.out.bl⟩
 ·have HA:=jq (fun W (hp:Env W)=>let⟨tp,p,hv⟩:=hp.syn;(Tryz.strconv_Atoi_syntax_var ⟨r.toArray⟩ (by rw[hrs];omega) ha tp p W hv).mono (R':=fun(e:Ending) (w':World)=>∃(N:Nat) (tt:TypeId),e=Ending.returned (.tuple #[.int .i64 0,.iface tt (.pointer (some ⟨N,0,none⟩))])/\Below W.1.size W w') (by
   rintro e w' ⟨N,he,_,_,hb⟩;exact⟨N,_,he,hb⟩))
  clear ha hs hrl hrs hp;rw[Bool.false_and]
  cases nb
  all_goals
   unfold S at*
   go_enter Tryz.func142,Tryz.ntmps142
   go_wp2_with fail
   refine(HC.out _ H.out.pw).mono ?_;rintro e w1 ⟨rfl,hb⟩;replace H:=jq (H.out.here hb);clear hb;go_wp2_with fail
   refine(HA.out _ H.out.pw).mono ?_;rintro e w2 ⟨N,tt,rfl,hb⟩;replace H:=jq (H.out.here hb);clear hb;go_wp2_with fail
   refine(HNM.out _ H.out.pw).mono ?_;rintro e w3 ⟨rfl,hb⟩;replace H:=jq (H.out.here hb);clear hb;go_wp2_with fail
   first|go_ret|skip
   exact⟨rfl,H.out.bl⟩
 ·have HA:=jq (fun W (hp:Env W)=>let⟨tp,p,hv⟩:=hp.rng;(Tryz.strconv_Atoi_range_var ⟨r.toArray⟩ (by rw[hrs];omega) ha tp p W hv).mono (R':=fun(e:Ending) (w':World)=>∃(z:Int) (N:Nat) (tt:TypeId),e=Ending.returned (.tuple #[.int .i64 z,.iface tt (.pointer (some ⟨N,0,none⟩))])/\Below W.1.size W w') (by
   rintro e w' ⟨N,he,_,_,hb⟩;exact⟨_,N,_,he,hb⟩))
  clear ha hs hrl hrs hp;rw[Bool.false_and]
  cases nb
  all_goals
   unfold S at*
   go_enter Tryz.func142,Tryz.ntmps142
   go_wp2_with fail
   refine(HC.out _ H.out.pw).mono ?_;rintro e w1 ⟨rfl,hb⟩;replace H:=jq (H.out.here hb);clear hb;go_wp2_with fail
   refine(HA.out _ H.out.pw).mono ?_;rintro e w2 ⟨z,N,tt,rfl,hb⟩;replace H:=jq (H.out.here hb);clear hb;go_wp2_with fail
   refine(HNM.out _ H.out.pw).mono ?_;rintro e w3 ⟨rfl,hb⟩;replace H:=jq (H.out.here hb);clear hb;go_wp2_with fail
   first|go_ret|skip
   exact⟨rfl,H.out.bl⟩
end
section
theorem ZeZ(g:Nat)(cb:Array Value)(p:Pk->Bool)(A:Option Addr)(n c:Nat)(xs:List Pk)(w:World)(eg:∀args w,(callFunc g args).run Tryz.prog w=.ok (.enter g args) w)
 (hp:∀(W:World) (x:Pk),x∈xs->Below w.1.size w W->Calls Tryz.prog g (#[PkV x]++cb) W fun e w'=>e=.returned (.bool (p x))/\Below W.1.size W w') (hr:Sl P2 2 w w.1.size A n xs) (hn:n<=1000000000):
 Calls Tryz.prog 177 #[.slice A n c,.func (.func g) #[] cb] w fun e w'=>e=.returned (.int .i64 (Zam p xs))/\Below w.1.size w w':=by
 have HPR:=jq hp;have HR:=jq hr;clear hp hr;go_enter Tryz.func177,Tryz.ntmps177
 go_wp2
 go_loopw [5,8] (fun _ i wr=>∃j:Nat,j<=n/\i=.int .i64 j/\Hid ((xs.take j).any p=false)/\Below w.1.size w wr) (fun _ i _=>n-(intOf i).toNat)
 case atStart=>exact⟨0,Nat.zero_le _,rfl,by show _=_;simp,Below.refl _ _⟩
 case round=>
  obtain⟨j,hj,rfl,HN,hb⟩:=hrel
  by_cases hlt:j<n
  ·obtain⟨b,off,r,rfl,hbl,hxj,hd⟩:=(HR.out.below hb).at_ hlt
   have d0:wr.cell? ⟨b,off+j*2,none⟩=some (.string ⟨r.lot.toArray⟩):=hd 0 _ rfl;have d1:wr.cell? ⟨b,off+j*2+1,none⟩=some (.string ⟨r.q.toArray⟩):=hd 1 _ rfl;have HX:=jq hxj;have hcall:=HPR.out wr r (List.mem_of_getElem? hxj) hb;unfold PkV S at hcall;clear hxj hd;have HC:=jq hcall;clear hcall
   cases hq:p r with
   |true=>
    rw[hq] at HC;have HQ:=jq hq;clear hq;go_wp2_with (go_at_fn g;refine(HC.out).mono ?_;rintro e w' ⟨rfl,hb'⟩)
    go_ret
    exact⟨Qa (Zer HX.out HQ.out HN.out).symm,hb.trans (hb'.mono hb.size)⟩
   |false=>
    rw[hq] at HC;have HQ:=jq hq;clear hq;go_wp2_with (go_at_fn g;refine(HC.out).mono ?_;rintro e w' ⟨rfl,hb'⟩)
    go_roundw
    case rel=>exact⟨j+1,by omega,by go_num,ZaP HX.out HN.out HQ.out,hb.trans (hb'.mono hb.size)⟩
    case measure=>simp[intOf];omega
  ·go_wp2
   go_ret
   exact⟨Qa (ZaO (by have:=HN.out;rwa [List.take_of_length_le (by have:=HR.out.1;omega)] at this)).symm,hb⟩
theorem Zci(g:Nat)(cb:Array Value)(p:Pk->Bool)(A:Option Addr)(n c:Nat)(xs:List Pk)(w:World)(eg:∀args w,(callFunc g args).run Tryz.prog w=.ok (.enter g args) w)
 (hp:∀(W:World) (x:Pk),x∈xs->Below w.1.size w W->Calls Tryz.prog g (#[PkV x]++cb) W fun e w'=>e=.returned (.bool (p x))/\Below W.1.size W w') (hr:Sl P2 2 w w.1.size A n xs) (hn:n<=1000000000):
 Calls Tryz.prog 143 #[.slice A n c,.func (.func g) #[] cb] w fun e w'=>e=.returned (.bool (xs.any p))/\Below w.1.size w w':=by
 have H:=jq (ZeZ g cb p A n c xs w eg hp hr hn);clear hp eg hr;have e:=Zes p xs;generalize Zam p xs=z at*;have E:=jq e;clear e;go_enter Tryz.func143,Tryz.ntmps143
 go_wp2_with (go_at_call 177;refine(H.out).mono ?_;rintro e w' ⟨rfl,hb'⟩)
 go_ret
 exact⟨Qd E.out,hb'⟩
end
section
theorem Vw(s:List UInt8)(w:World)(hl:s.length<=maxLen):Calls Tryz.prog 77 #[S s] w fun e w'=>e=.returned (.bool (Qr s))/\w=w':=by
 have HNB:=jq (show Qr s=(decide (s≠[])&&decide (s.length<=16)&&s.all Vn) from rfl);have hsz:=Qk s;have hm:s.length<=9223372036854775807:=hl;clear hl;unfold S;go_enter Tryz.func77,Tryz.ntmps77
 go_wp2
 go_loop [3,4] (fun i _=>∃k:Nat,k<=s.length/\i=.int .i64 k/\Hid ((s.take k).all Vn=true)) (fun i _=>s.length-(intOf i).toNat)
 case atStart=>exact⟨0,Nat.zero_le _,rfl,by show _=_;simp⟩
 case round=>
  obtain⟨k,hk,rfl,HA⟩:=hrel
  by_cases hlt:k<s.length
  ·obtain⟨b,hb⟩:∃b,s[k]?=some b:=⟨_,List.getElem?_eq_getElem hlt⟩
   have hks:k<(⟨s.toArray⟩:ByteArray).size:=by rw[Qk];exact hlt
   have hbk:(⟨s.toArray⟩:ByteArray)[k]=b:=Jn hb hks;have HB:=jq hb;clear hb;have HIF:=jq (Zdn b);clear HNB
   by_cases h95:(b.toNat:Int)=95
   ·have hx:((b.toNat:Int) !=95)=false:=by simp[h95]
    go_wp2
    all_goals
     go_round
     case rel=>exact⟨k+1,by omega,by go_num,Yn HB.out HA.out (by rw[HIF.out];omega)⟩
     case measure=>simp[intOf];omega
   ·have hx:((b.toNat:Int) !=95)=true:=by simp[h95]
    go_wp2
    all_goals first
     |(go_round
       case rel=>exact⟨k+1,by omega,by go_num,Yn HB.out HA.out (by rw[HIF.out];omega)⟩
       case measure=>simp[intOf];omega)
     |(go_ret
       exact⟨Qd (Zdo HB.out (by rw[HIF.out];omega)).symm,rfl⟩)
  ·have HAL:=jq (show s.all Vn=true by have:=HA.out;rwa [List.take_of_length_le (by omega)] at this);rw[HAL.out] at HNB
   by_cases h1:1<=s.length
   ·have HNE:=jq (show s≠[] by intro e;rw[e] at h1;simp at h1);rw[decide_eq_true HNE.out] at HNB
    by_cases h2:s.length<=16
    ·rw[decide_eq_true h2] at HNB
     go_wp2
     go_ret
     exact⟨Qd (by rw[HNB.out,decide_eq_true (show((s.length:Nat):Int)<=16 by omega)];rfl),rfl⟩
    ·rw[decide_eq_false h2] at HNB
     go_wp2
     go_ret
     exact⟨Qd (by rw[HNB.out,decide_eq_false (show ¬((s.length:Nat):Int)<=16 by omega)];rfl),rfl⟩
   ·have HNE:=jq (show ¬s≠[] by
     rw[Classical.not_not];exact List.eq_nil_of_length_eq_zero (by omega))
    rw[decide_eq_false HNE.out] at HNB
    go_wp2
    go_ret
    exact⟨Qd (by rw[HNB.out];rfl),rfl⟩
end
end Go.Proofs.YtmfjmngebldanaaGreatDoor
