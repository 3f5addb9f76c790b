/- N1, Tb, Kp, Dg, M1, N1b, Sv, CfI, Tbo, Ri, Sm, Ke, R1, RO, Bz, Rr. -/
import Derived.Test.YtpnncoinlopndaaGreatDoorQGMp8
import Derived.Test.YtpnncoinlopndaaGreatDoorShelf
import Derived.Shelf.Strings.SlTrimAscii
import Derived.Lib.ItoaNum
import Derived.Lib.LaidTab
import Derived.Lib.AppendIntMem
import Derived.RangeFuncBound
import Derived.RangeFuncLeaves
import Derived.Shelf.Abstract
import Derived.Shelf.RegionOpen
import Derived.OwnWalkIn
import Derived.TacticsInMore
import Derived.LoopNIn
import Derived.LoopIn
import Derived.Maps.Views
import Derived.Maps.OwnSet
import Derived.StringKeys
import Derived.Deep.DeepCutAuto
import Derived.OrdersIn
import Derived.OrdersHeld
import Derived.Deep.RegionHeld
set_option maxRecDepth 20000
set_option maxHeartbeats 1000000
namespace Go.Proofs.YtpnncoinlopndaaGreatDoor
open Go.Lib renaming hid→jq
open Go.RowKit Go.Shelf
section
def S(l:List UInt8):Value:=.string ⟨l.toArray⟩
def Qx(b:UInt8):Bool:=48<=b&&b<=57
def Qi(a:List UInt8):List UInt8×Bool:=
 let s:=Lib.trimPrefix a [45]
 if s.all Qx then(s.dropWhile (·==48),Lib.hasPrefix a [45]&& !(s.dropWhile (·==48)).isEmpty) else([],false)
def Yu(a:List UInt8):List UInt8:=if(Qi a).2 then 45::(Qi a).1 else(Qi a).1
def ZaV:List UInt8:=[48,49,50,51,52,53,54,55,56,57]
theorem ZcJ(b:UInt8):ZaV.contains b=Qx b:=by
 have h:∀n:Fin 256,ZaV.contains (UInt8.ofNat n.val)=Qx (UInt8.ofNat n.val):=by decide+kernel
 have:=h ⟨b.toNat,b.toNat_lt⟩
 simpa using this
theorem VY{α:Type}(p:α->Bool)(l:List α):l.dropWhile p=[]↔l.all p=true:=by
 induction l with
 |nil=>simp
 |cons a l ih=>
  rw[List.dropWhile_cons]
  cases h:p a<;>simp[h] at ih ⊢
  exact ih
theorem JZ{α:Type}(p:α->Bool)(l:List α)(h:l.dropWhile p≠[]):p ((l.dropWhile p).head h)=false:=by
 induction l with
 |nil=>simp at h
 |cons a l ih=>
  cases hp:p a with
  |true=>
   have e:(a::l).dropWhile p=l.dropWhile p:=by rw[List.dropWhile_cons,hp];rfl
   simp only[e] at h ⊢;exact ih h
  |false=>
   have e:(a::l).dropWhile p=a::l:=by rw[List.dropWhile_cons,hp];rfl
   simp only[e,List.head_cons];exact hp
theorem Zeg(s:List UInt8):(Lib.trimS s ZaV=[])↔s.all Qx=true:=by
 have hc:(fun x=>ZaV.contains x)=Qx:=funext ZcJ;unfold Lib.trimS Lib.trimLeftS Lib.trimRightS;rw[hc,VY]
 constructor
 ·intro h
  by_cases hn:s.reverse.dropWhile Qx=[]
  ·rw[VY] at hn;simpa using hn
  ·have h1:=JZ Qx s.reverse hn;rw[List.all_reverse,List.all_eq_true] at h;rw[h _ (List.head_mem hn)] at h1
   cases h1
 ·intro h;have:s.reverse.dropWhile Qx=[]:=by rw[VY];simpa using h
  rw[this];rfl
theorem Qs(l:List UInt8):(⟨l.toArray⟩:ByteArray).size=l.length:=by simp[ByteArray.size]
theorem ZjE(s:List UInt8)(w:World)(hs:s.length<=1000000000):
 Calls Tryz.prog 190 #[S s,.string ⟨#[48,49,50,51,52,53,54,55,56,57]⟩] w fun e w'=>e=.returned (S (Lib.trimS s ZaV))/\Below w.1.size w w':=by
 by_cases h0:s.length=0
 ·refine(Any.strings_Trim_empty Tryz.lays160 ⟨s.toArray⟩ _ w (.inl (by rw[Qs];exact h0))).mono ?_;rintro e w' ⟨rfl,rfl⟩;obtain rfl:s=[]:=List.eq_nil_of_length_eq_zero h0;exact⟨rfl,Below.refl _ _⟩
 ·refine(Any.strings_Trim_set Tryz.lays160 (fun _=>by kernel_rfl) (by kernel_rfl) ⟨s.toArray⟩ ⟨#[48,49,50,51,52,53,54,55,56,57]⟩ w (by decide) (by rw[Qs];omega) (by rw[Qs];omega) (by decide) (fun j b hb=> ?_)).mono ?_
  ·have h1:∀b∈([48,49,50,51,52,53,54,55,56,57]:List UInt8),b.toNat<128:=by decide
   exact h1 b (List.mem_of_getElem? hb)
  ·rintro e w' ⟨rfl,q,rfl⟩;exact⟨rfl,bdN (((Below.refl _ w).alloc (Nat.le_refl _) _).alloc (by simp) _) q⟩
theorem Vw(a p:List UInt8):(Lib.trimPrefix a p).length<=a.length:=by
 unfold Lib.trimPrefix
 split
 ·rw[List.length_drop];omega
 ·omega
theorem Zfy(l:List UInt8):(⟨l.toArray⟩:ByteArray).data.toList=l:=by simp
theorem ZcY(a:List UInt8)(w:World)(ha:a.length<=1000000000):
 Calls Tryz.prog 153 #[S a] w fun e w'=>e=.returned (.tuple #[S (Qi a).1,.bool (Qi a).2])/\Below w.1.size w w':=by
 have HC:=jq (show ∀W,Calls Tryz.prog 189 #[.string ⟨a.toArray⟩,.string ⟨#[45]⟩] W fun e w'=>e=.returned (.tuple #[.string ⟨(Lib.trimPrefix a [45]).toArray⟩,.bool (Lib.hasPrefix a [45])])/\w'=W from fun W=>Tryz.strings_CutPrefix ⟨a.toArray⟩ ⟨#[45]⟩ W);have hl:=Vw a [45];have HDG:=jq (show Qi a=if(Lib.trimPrefix a [45]).all Qx then((Lib.trimPrefix a [45]).dropWhile (·==48),Lib.hasPrefix a [45]&& !((Lib.trimPrefix a [45]).dropWhile (·==48)).isEmpty) else([],false) from rfl);generalize Lib.trimPrefix a [45]=s at*;generalize Lib.hasPrefix a [45]=neg at*;have HT:=jq (show ∀W,Calls Tryz.prog 191 #[.string ⟨s.toArray⟩,.string ⟨#[48]⟩] W fun e w'=>e=.returned (.string ⟨(s.dropWhile (·==48)).toArray⟩)/\w'=W from fun W=>Tryz.strings_TrimLeft_one ⟨s.toArray⟩ 48 (by decide) W);have HM:=jq (fun W=>ZjE s W (by omega));unfold S at*
 cases hall:s.all Qx with
 |true=>
  rw[hall] at HDG;simp only[if_true] at HDG;have hn:=(Zeg s).2 hall;rw[hn] at HM;clear hall hn;generalize s.dropWhile (·==48)=t at*
  by_cases htn:t=[]
  ·subst htn
   cases neg<;>(
    go_enter Tryz.func153,Tryz.ntmps153
    go_wp2_with (first
     |(go_at_call 189;refine(HC.out _).mono ?_;rintro e w1 ⟨rfl,rfl⟩)
     |(go_at_call 190;refine(HM.out _).mono ?_;rintro e w2 ⟨rfl,hb2⟩)
     |(go_at_call 191;refine(HT.out _).mono ?_;rintro e w3 ⟨rfl,rfl⟩))
    go_ret2
    rw[HDG.out];exact⟨rfl,hb2⟩)
  ·have hte:t.isEmpty=false:=by cases t with|nil=>exact absurd rfl htn|cons _ _=>rfl
   have hte2:(⟨t.toArray⟩:ByteArray).toList.isEmpty=false:=by rw[Lib.toList_data];simpa using hte
   have hte3:(!(⟨t.toArray⟩:ByteArray).toList.isEmpty)=true:=by rw[hte2];rfl
   cases neg<;>(
    go_enter Tryz.func153,Tryz.ntmps153
    go_wp2_with (first
     |(go_at_call 189;refine(HC.out _).mono ?_;rintro e w1 ⟨rfl,rfl⟩)
     |(go_at_call 190;refine(HM.out _).mono ?_;rintro e w2 ⟨rfl,hb2⟩)
     |(go_at_call 191;refine(HT.out _).mono ?_;rintro e w3 ⟨rfl,rfl⟩))
    go_ret2
    rw[HDG.out,hte];exact⟨rfl,hb2⟩)
 |false=>
  rw[hall] at HDG;simp only[Bool.false_eq_true,if_false] at HDG
  have hn:Lib.trimS s ZaV≠[]:=fun h=>by rw[(Zeg s).1 h] at hall;cases hall
  clear hall;generalize Lib.trimS s ZaV=t at*
  have hte:t.isEmpty=false:=by cases t with|nil=>exact absurd rfl hn|cons _ _=>rfl
  have hte2:(⟨t.toArray⟩:ByteArray).toList.isEmpty=false:=by rw[Lib.toList_data];simpa using hte
  have hte3:(!(⟨t.toArray⟩:ByteArray).toList.isEmpty)=true:=by rw[hte2];rfl
  go_enter Tryz.func153,Tryz.ntmps153
  go_wp2_with (first
   |(go_at_call 189;refine(HC.out _).mono ?_;rintro e w1 ⟨rfl,rfl⟩)
   |(go_at_call 190;refine(HM.out _).mono ?_;rintro e w2 ⟨rfl,hb2⟩))
  go_ret2
  rw[HDG.out];exact⟨rfl,hb2⟩
theorem Zd0{α:Type}(p:α->Bool)(l:List α):(l.dropWhile p).length<=l.length:=by
 induction l with
 |nil=>simp
 |cons a l ih=>
  rw[List.dropWhile_cons]
  split
  ·rw[List.length_cons];omega
  ·exact Nat.le_refl _
theorem XC(a:List UInt8):(Qi a).1.length<=a.length:=by
 unfold Qi;simp only
 split
 ·exact Nat.le_trans (Zd0 _ _) (Vw a [45])
 ·simp
def ofL(n:Int):List UInt8:=Yu (Lib.itoa n)
theorem VZ(u:Nat)(h:u<10^19):(Lib.decDigits u).length<=19:=by
 have:∀k u,u<10^(k+1)->(Lib.decDigits u).length<=k+1:=by
  intro k
  induction k with
  |zero=>intro u h;rw[Lib.decDigits,dif_pos (by omega)];simp
  |succ k ih=>
   intro u h;rw[Lib.decDigits]
   split
   ·simp
   ·rw[List.length_append];have:=ih (u/10) (by rw[Nat.pow_succ] at h;omega)
    simp;omega
 exact this 18 u h
end
section
def Pow(w:World):Prop:=Lib.TabIs Tryz.prog w "internal/strconv.uint64pow10" .u64 Lib.pow10Tab
theorem Pow.here{w w':World}(h:Pow w)(hb:Below w.1.size w w'):Pow w':=Lib.tabBelow_of_tabIs h w' hb
end
section
def BlkB(w:World)(p:Nat)(cs:Array Value)(T:TypeId):Prop:=w.heap[p]?=some (.cells cs T (0,0))
section
variable {w w' W W':World} {p:Nat} {cs:Array Value} {T:TypeId}
theorem BlkB.lt(h:BlkB w p cs T):p<w.1.size:=(Array.getElem?_eq_some_iff.1 h).1
theorem BlkB.cell(h:BlkB w p cs T)(j:Nat){v:Value}(hj:cs[j]?=some v):w.cell? ⟨p,j,none⟩=some v:=(cell_of_row w p j cs T (0,0) h).trans hj
theorem BlkB.frozen(h:BlkB w p cs T)(j:Nat):w.frozen? ⟨p,j,none⟩=false:=by
 unfold BlkB at h;simp[World.frozen?,h]
theorem BlkB.here(h:BlkB w p cs T)(hb:Below w.1.size w w'):BlkB w' p cs T:=(hb.block p h.lt).trans h
theorem BlkB.alloc(h:BlkB w p cs T)(o:Obj):BlkB (w.alloc o) p cs T:=(Below.heap_alloc w o p h.lt).trans h
theorem BlkB.far(h:BlkB w p cs T){a:Addr}(hp:p≠a.block)(u:Value):BlkB (w.setCell a u) p cs T:=(Below.heap_setCell w a u p hp).trans h
theorem BlkB.set(h:BlkB w p cs T)(j:Nat)(u:Value):BlkB (w.setCell ⟨p,j,none⟩ u) p (cs.setIfInBounds j u) T:=heap_setCell_same w p j cs T u h
end
theorem Zfz{w w':World}{name:String}{v:Array Value}(h:w.var? Tryz.prog name=some v)(hb:Below w.1.size w w'):w'.var? Tryz.prog name=some v:=by
 unfold World.var? at*
 cases hg:Tryz.prog.globalNamed name with
 |none=>simp[hg] at h
 |some g=>
  simp only[hg,Option.bind_some] at h ⊢
  have hlt:g<w.1.size:=by
   rcases Nat.lt_or_ge g w.1.size with h'|h'
   ·exact h'
   ·rw[Array.getElem?_eq_none h'] at h;simp at h
  rw[hb.block g hlt];exact h
structure Env (w:World):Prop where
 pow:Pow w
 syn:∃tp p,w.var? Tryz.prog "strconv.ErrSyntax" =some #[.iface tp p]
 rng:∃tp p,w.var? Tryz.prog "strconv.ErrRange" =some #[.iface tp p]
theorem Env.here{w w':World}(h:Env w)(hb:Below w.1.size w w'):Env w':=
 ⟨h.pow.here hb,h.syn.elim fun tp h1=>h1.elim fun p h2=>⟨tp,p,Zfz h2 hb⟩,h.rng.elim fun tp h1=>h1.elim fun p h2=>⟨tp,p,Zfz h2 hb⟩⟩
section
variable {w w' W W':World} {p:Nat} {cs:Array Value} {T:TypeId}
structure Kp (w:World) (bs:List (Nat×Array Value×TypeId)) (W:World):Prop where
 pow:Env w
 bl:Below w.1.size w W
 own:∀b∈bs,w.1.size<=b.1
 ord:(bs.map (·.1)).Pairwise (fun a b=>a≠b)
 blk:∀b∈bs,BlkB W b.1 b.2.1 b.2.2
variable {bs:List (Nat×Array Value×TypeId)}
theorem Kp.start(hp:Env w):Kp w [] w:=⟨hp,Below.refl _ _,fun _ h=>by simp at h,.nil,fun _ h=>by simp at h⟩
theorem Kp.pw(h:Kp w bs W):Env W:=h.pow.here h.bl
theorem Kp.po(h:Kp w bs W):Pow W:=h.pw.pow
theorem Kp.here(h:Kp w bs W)(hb:Below W.1.size W W'):Kp w bs W':=
 ⟨h.pow,h.bl.trans (hb.mono h.bl.size),h.own,h.ord,fun b hm=>(h.blk b hm).here hb⟩
theorem Kp.drew(h:Kp w bs W):Kp w bs W.drew:=h.here (Below.refl _ W).drew
theorem Kp.drewN(h:Kp w bs W)(n:Nat):Kp w bs (W.drewN n):=h.here (bdN (Below.refl _ W) n)
theorem Kp.alloc(h:Kp w bs W)(o:Obj):Kp w bs (W.alloc o):=h.here ((Below.refl _ W).alloc (Nat.le_refl _) o)
theorem Kp.new(h:Kp w bs W)(p:Nat)(hp:p=W.1.size)(cs:Array Value)(T:TypeId):Kp w ((p,cs,T)::bs) (W.alloc (.cells cs T)):=by
 subst hp;have h':=h.alloc (.cells cs T);refine⟨h'.pow,h'.bl,?_,?_,?_⟩
 ·intro b hb
  rcases List.mem_cons.1 hb with rfl|hb
  ·exact h.bl.size
  ·exact h.own b hb
 ·refine .cons (fun b hb=> ?_) h.ord;obtain⟨x,hx,rfl⟩:=List.mem_map.1 hb
  exact fun e=>Nat.lt_irrefl _ (e▸(h.blk x hx).lt)
 ·intro b hb
  rcases List.mem_cons.1 hb with rfl|hb
  ·exact heap_alloc_new W _
  ·exact h'.blk b hb
theorem Kp.at_(h:Kp w bs W)(i:Nat)(hb:bs[i]?=some (p,cs,T)):BlkB W p cs T:=h.blk _ (List.mem_of_getElem? hb)
theorem Kp.c(h:Kp w bs W)(i j:Nat){v:Value}(hb:bs[i]?=some (p,cs,T))(hv:cs[j]?=some v):W.cell? ⟨p,j,none⟩=some v:=(h.at_ i hb).cell j hv
theorem Kp.f(h:Kp w bs W)(i j:Nat)(hb:bs[i]?=some (p,cs,T)):W.frozen? ⟨p,j,none⟩=false:=(h.at_ i hb).frozen j
theorem Kp.lt(h:Kp w bs W)(i:Nat)(hb:bs[i]?=some (p,cs,T)):p<W.1.size:=(h.at_ i hb).lt
theorem Kp.old(h:Kp w bs W)(i:Nat)(hb:bs[i]?=some (p,cs,T)):w.1.size<=p:=h.own _ (List.mem_of_getElem? hb)
theorem Kp.ne(h:Kp w bs W)(i k:Nat){q:Nat}{ds:Array Value}{U:TypeId}(hb:bs[i]?=some (p,cs,T))(hc:bs[k]?=some (q,ds,U))(hik:i≠k):p≠q:=by
 have hi:=(List.getElem?_eq_some_iff.1 hb).1;have hk:=(List.getElem?_eq_some_iff.1 hc).1;have hb':=(List.getElem?_eq_some_iff.1 hb).2;have hc':=(List.getElem?_eq_some_iff.1 hc).2;have ho:=List.pairwise_iff_getElem.1 h.ord
 rcases Nat.lt_or_ge i k with h1|h1
 ·have:=ho i k (by simpa using hi) (by simpa using hk) h1
  simp only[List.getElem_map,hb',hc'] at this;exact this
 ·have:=ho k i (by simpa using hk) (by simpa using hi) (by omega)
  simp only[List.getElem_map,hb',hc'] at this;exact fun e=>this e.symm
theorem Kp.set(h:Kp w bs W)(i j:Nat)(hb:bs[i]?=some (p,cs,T))(v:Value):Kp w (bs.set i (p,cs.setIfInBounds j v,T)) (W.setCell ⟨p,j,none⟩ v):=by
 have hbl:=(Below.refl w.1.size W).setCell (p:=⟨p,j,none⟩) (h.old i hb) v
 have hm:(bs.set i (p,cs.setIfInBounds j v,T)).map (·.1)=bs.map (·.1):=by
  refine List.ext_getElem? fun k=> ?_
  rw[List.getElem?_map,List.getElem?_map,List.getElem?_set]
  split
  ·rename_i e
   subst e;rw[hb]
   split
   ·rfl
   ·rename_i e2;exact absurd (List.getElem?_eq_some_iff.1 hb).1 e2
  ·rfl
 refine⟨h.pow,h.bl.trans hbl,?_,by rw[hm];exact h.ord,?_⟩
 ·intro b hx
  rcases List.mem_or_eq_of_mem_set hx with hx|rfl
  ·exact h.own b hx
  ·exact h.old i hb
 ·intro b hx;obtain⟨k,hk⟩:=List.getElem?_of_mem hx
  rw[List.getElem?_set] at hk
  split at hk
  ·split at hk
   ·injection hk with hk;subst hk;exact(h.at_ i hb).set j v
   ·cases hk
  ·rename_i hik
   obtain⟨q,ds,U⟩:=b
   exact(h.at_ k hk).far (a:=⟨p,j,none⟩) (h.ne k i hk hb (fun e=>hik e.symm)) v
end
def Xb(f:FuncId)(args:Array Value)(r:Value):Prop:=∀W,Env W->Calls Tryz.prog f args W fun e w'=>e=.returned r/\Below W.1.size W w'
end
section
def Qa(n:Int):List UInt8:=if n=0 then[] else if n<0 then 45::Lib.decDigits n.natAbs else Lib.decDigits n.natAbs
def QN(m:Nat):List UInt8:=if m=0 then[] else Lib.decDigits m
theorem XO(m:Nat)(h:m≠0):QN m=QN (m/10)++[UInt8.ofNat (48+m%10)]:=by
 unfold QN;rw[if_neg h,Lib.decDigits]
 split
 ·rename_i hlt
  rw[if_pos (by omega),show m%10=m by omega];rfl
 ·rename_i hlt
  rw[if_neg (by omega)]
theorem Zlv(r:Nat)(h:r<10):Utf8.encode (48+(r:Int))=⟨#[UInt8.ofNat (48+r)]⟩:=by
 have:∀r:Fin 10,Utf8.encode (48+(r.val:Int))=⟨#[UInt8.ofNat (48+r.val)]⟩:=by decide+kernel
 exact this ⟨r,h⟩
theorem Zbh(k:Nat):Utf8.encode (48+(k:Int)%10)=⟨#[UInt8.ofNat (48+k%10)]⟩:=by
 have:=Zlv (k%10) (by omega)
 rwa [show((k%10:Nat):Int)=(k:Int)%10 by omega] at this
theorem Vj(k:Nat):(Utf8.encode (48+(k:Int)%10)).size<=1:=by rw[Zbh];exact Nat.le_refl _
theorem ZfA(m:Nat)(h:m<10^19):(QN m).length<=19:=by
 unfold QN
 split
 ·simp
 ·exact VZ m h
theorem ZcZ(m:Nat)(h:m≠0):1<=(QN m).length:=by rw[XO m h,List.length_append];simp
theorem Jj(a b:List UInt8):(⟨a.toArray⟩:ByteArray)++⟨b.toArray⟩=⟨(a++b).toArray⟩:=ByteArray.mk_append_mk a b
theorem Zeh(d:Nat)(h:d<10):Qx (UInt8.ofNat (48+d))=true:=by
 have:∀d:Fin 10,Qx (UInt8.ofNat (48+d.val))=true:=by decide+kernel
 exact this ⟨d,h⟩
theorem Jk(m:Nat):(QN m).all Qx=true:=by
 induction m using Nat.strongRecOn with
 |_ m ih=>
  by_cases h:m=0
  ·subst h;rfl
  ·rw[XO m h,List.all_append,ih (m/10) (by omega)];simp only[List.all_cons,List.all_nil,Bool.and_true,Bool.true_and];exact Zeh (m%10) (by omega)
theorem Jl(m:Nat)(h:m≠0):∃b l,QN m=b::l/\(b==48)=false/\(b==45)=false:=by
 induction m using Nat.strongRecOn with
 |_ m ih=>
  rw[XO m h]
  by_cases h10:m/10=0
  ·rw[h10];refine⟨UInt8.ofNat (48+m%10),[],rfl,?_,?_⟩
   ·have:∀d:Fin 10,d.val≠0->(UInt8.ofNat (48+d.val)==48)=false:=by decide+kernel
    exact this ⟨m%10,by omega⟩ (by simp only;omega)
   ·have:∀d:Fin 10,(UInt8.ofNat (48+d.val)==45)=false:=by decide+kernel
    exact this ⟨m%10,by omega⟩
  ·obtain⟨b,l,e,h1,h2⟩:=ih (m/10) (by omega) h10
   rw[e];exact⟨b,l++[UInt8.ofNat (48+m%10)],rfl,h1,h2⟩
theorem Zc0(m:Nat)(h:m≠0):Qi (QN m)=(QN m,false):=by
 obtain⟨b,l,e,h1,h2⟩:=Jl m h
 have hall:=Jk m
 have hp:Lib.hasPrefix (QN m) [45]=false:=by
  rw[e];unfold Lib.hasPrefix
  have h3:(45==b)=false:=by
   rw[Bool.eq_false_iff] at h2 ⊢;intro hh;apply h2;simp at hh ⊢; exact hh.symm
  simp[List.isPrefixOf,h3]
 have ht:Lib.trimPrefix (QN m) [45]=QN m:=by unfold Lib.trimPrefix;rw[hp];rfl
 unfold Qi;simp only[ht,hall,hp,if_true,Bool.false_and];rw[e,List.dropWhile_cons,h1];rfl
theorem Zlw(m:Nat):ofL (m:Int)=QN m:=by
 unfold ofL Lib.itoa;rw[if_neg (by omega)]
 by_cases h:m=0
 ·subst h
  show Yu (Lib.decDigits 0)=_
  rw[Lib.decDigits,dif_pos (by omega)];decide+kernel
 ·have e:Lib.decDigits (Int.toNat (m:Int))=QN m:=by unfold QN;rw[if_neg h];simp
  rw[e];unfold Yu;rw[Zc0 m h];rfl
theorem XU(m:Nat):Qa (m:Int)=QN m:=by
 unfold Qa QN
 by_cases h:m=0
 ·subst h;rfl
 ·rw[if_neg (by omega),if_neg (by omega),if_neg h];simp
end
section
def gv:List Nat->Nat
 |[]=>0
 |x::xs=>x+1000000000*gv xs
def Gs(xs:List Nat):Prop:=∀x∈xs,x<1000000000
def Nz(xs:List Nat):Prop:=xs.getLast?≠some 0
structure Mag (xs:List Nat) (v:Nat):Prop where
 gs:Gs xs
 nz:Nz xs
 val:gv xs=v
theorem Jm(xs ys:List Nat):gv (xs++ys)=gv xs+1000000000^xs.length*gv ys:=by
 induction xs with
 |nil=>simp[gv]
 |cons x xs ih=>
  rw[List.cons_append,gv,ih,gv,List.length_cons,Nat.pow_succ,Nat.mul_add,Nat.add_assoc,<-Nat.mul_assoc,Nat.mul_comm (1000000000^xs.length) 1000000000]
theorem YM(xs:List Nat)(g:Nat):gv (xs++[g])=gv xs+1000000000^xs.length*g:=by rw[Jm];simp[gv]
theorem Gs.nil:Gs []:=fun x hx=>by cases hx
theorem Gs.snoc{xs:List Nat}{g:Nat}(h:Gs xs)(hg:g<1000000000):Gs (xs++[g]):=fun x hx=>by
 rcases List.mem_append.1 hx with h1|h1
 ·exact h x h1
 ·simp at h1;rw[h1];exact hg
theorem Gs.take{xs:List Nat}(h:Gs xs)(k:Nat):Gs (xs.take k):=fun x hx=>h x (List.mem_of_mem_take hx)
theorem Gs.at_{xs:List Nat}(h:Gs xs){i g:Nat}(hi:xs[i]?=some g):g<1000000000:=h g (List.mem_of_getElem? hi)
theorem Vi{xs:List Nat}(h:Gs xs):gv xs<1000000000^xs.length:=by
 induction xs with
 |nil=>simp[gv]
 |cons x xs ih=>
  have h1:=ih (fun y hy=>h y (by simp[hy]));have h2:=h x (by simp);rw[gv,List.length_cons,Nat.pow_succ];omega
theorem ZbZ{xs:List Nat}(hn:xs≠[])(h:Nz xs):1000000000^(xs.length-1)<=gv xs:=by
 obtain⟨ys,g,rfl⟩:∃ys g,xs=ys++[g]:=⟨xs.dropLast,xs.getLast hn,(List.dropLast_concat_getLast hn).symm⟩
 have hg:g≠0:=fun e=>h (by rw[e];simp)
 rw[YM,List.length_append,List.length_singleton,Nat.add_sub_cancel];exact Nat.le_trans (Nat.le_mul_of_pos_right _ (by omega)) (Nat.le_add_left _ _)
theorem Yv(xs:List Nat)(i:Nat)(g:Nat)(h:xs[i]?=some g):gv (xs.take (i+1))=gv (xs.take i)+1000000000^i*g:=by
 obtain⟨hi,rfl⟩:=List.getElem?_eq_some_iff.1 h
 rw[List.take_succ_eq_append_getElem hi,YM,List.length_take,Nat.min_eq_left (by omega)]
theorem Yd(xs:List Nat)(i:Nat)(g:Nat)(h:xs[i]?=some g):gv (xs.drop i)=g+1000000000*gv (xs.drop (i+1)):=by
 obtain⟨hi,rfl⟩:=List.getElem?_eq_some_iff.1 h
 rw[List.drop_eq_getElem_cons hi,gv]
theorem YU(xs:List Nat)(i:Nat)(hi:i<=xs.length):gv xs=gv (xs.take i)+1000000000^i*gv (xs.drop i):=by
 have:=Jm (xs.take i) (xs.drop i)
 rw[List.take_append_drop,List.length_take,Nat.min_eq_left hi] at this;exact this
theorem Mag.zero:Mag [] 0:=⟨Gs.nil,by unfold Nz;simp,rfl⟩
theorem Mag.nil_iff{xs:List Nat}{v:Nat}(h:Mag xs v):xs=[]↔v=0:=by
 constructor
 ·rintro rfl;exact h.val.symm
 ·intro hv
  by_cases hn:xs=[]
  ·exact hn
  ·have:=ZbZ hn h.nz
   rw[h.val,hv] at this;have:=Nat.pow_pos (n:=xs.length-1) (show 0<1000000000 by decide)
   omega
theorem Mag.len{xs:List Nat}{v k:Nat}(h:Mag xs v)(hv:v<1000000000^k):xs.length<=k:=by
 by_cases hn:xs=[]
 ·rw[hn];simp
 ·have h1:=ZbZ hn h.nz;rw[h.val] at h1;have h2:=Nat.lt_of_le_of_lt h1 hv;have:=(Nat.pow_lt_pow_iff_right (show 1<1000000000 by decide)).1 h2
  omega
theorem ZfB{α:Type}{P:List α->Prop}(h0:P [])(h1:∀l b,P l->P (l++[b]))(l:List α):P l:=by
 have:∀l:List α,P l.reverse:=by
  intro l
  induction l with
  |nil=>exact h0
  |cons a l ih=>rw[List.reverse_cons];exact h1 _ _ ih
 have h:=this l.reverse
 rwa [List.reverse_reverse] at h
def Qk(l:List UInt8):Nat:=l.foldl (fun n b=>10*n+(b.toNat-48)) 0
theorem ZaW(l:List UInt8)(n:Nat):l.foldl (fun n b=>10*n+(b.toNat-48)) n=n*10^l.length+Qk l:=by
 induction l generalizing n with
 |nil=>simp[Qk]
 |cons b l ih=>
  have e:Qk (b::l)=(10*0+(b.toNat-48))*10^l.length+Qk l:=by unfold Qk;rw[List.foldl_cons];exact ih _
  rw[List.foldl_cons,ih,e,List.length_cons,Nat.pow_succ,Nat.add_mul,Nat.mul_comm 10 n,Nat.mul_assoc,Nat.mul_comm 10 (10^l.length),Nat.mul_zero,Nat.zero_add,Nat.add_assoc]
theorem YV(l l':List UInt8):Qk (l++l')=Qk l*10^l'.length+Qk l':=by
 unfold Qk;rw[List.foldl_append,ZaW];rfl
theorem Vp(l:List UInt8)(b:UInt8):Qk (l++[b])=10*Qk l+(b.toNat-48):=by
 rw[YV,Nat.mul_comm];simp[Qk]
theorem QM(b:UInt8):Qx b=true↔48<=b.toNat/\b.toNat<=57:=by
 unfold Qx;simp[UInt8.le_iff_toNat_le]
theorem XR{l:List UInt8}:l.all Qx=true->Qk l<10^l.length:=by
 refine ZfB (P:=fun l=>l.all Qx=true->Qk l<10^l.length) ?_ ?_ l
 ·intro _;simp[Qk]
 ·intro l b ih h;rw[List.all_append] at h;simp only[List.all_cons,List.all_nil,Bool.and_true,Bool.and_eq_true] at h;have h1:=ih h.1;have h2:=(QM b).1 h.2;rw[Vp,List.length_append,List.length_singleton,Nat.pow_succ];omega
theorem ZjF(b:UInt8)(h:Qx b=true):UInt8.ofNat (48+(b.toNat-48))=b:=by
 have h2:=(QM b).1 h;rw[show 48+(b.toNat-48)=b.toNat by omega];simp
theorem ZaB{b:UInt8}{l:List UInt8}(h:(b::l).all Qx=true)(hb:(b==48)=false):Qk (b::l)≠0:=by
 have h1:Qx b=true:=by simp at h;exact h.1
 have h2:=(QM b).1 h1
 have h3:b.toNat≠48:=fun e=>by
  have:b=48:=UInt8.toNat_inj.1 e
  rw[this] at hb;simp at hb
 unfold Qk;rw[List.foldl_cons,ZaW];have:=Nat.pow_pos (n:=l.length) (show 0<10 by decide)
 have:0<(10*0+(b.toNat-48))*10^l.length:=Nat.mul_pos (by omega) this
 omega
theorem Jn{l:List UInt8}:l.all Qx=true->(∀b t,l=b::t->(b==48)=false)->QN (Qk l)=l:=by
 refine ZfB (P:=fun l=>l.all Qx=true->(∀b t,l=b::t->(b==48)=false)->QN (Qk l)=l) ?_ ?_ l
 ·intro _ _;simp[Qk,QN]
 ·intro l b ih h hz;have h':=h;rw[List.all_append] at h;simp only[List.all_cons,List.all_nil,Bool.and_true,Bool.and_eq_true] at h;have h2:=(QM b).1 h.2
  have hne:Qk (l++[b])≠0:=by
   cases l with
   |nil=>exact ZaB h' (hz b [] rfl)
   |cons c t=>exact ZaB h' (hz c (t++[b]) rfl)
  rw[XO _ hne,Vp,show(10*Qk l+(b.toNat-48))/10=Qk l by omega,show(10*Qk l+(b.toNat-48))%10=b.toNat-48 by omega,ZjF b h.2,ih h.1 (fun c t e=>hz c (t++[b]) (by rw[e];rfl))]
theorem Vq(m:Nat):Qk (QN m)=m:=by
 induction m using Nat.strongRecOn with
 |_ m ih=>
  by_cases h:m=0
  ·subst h;rfl
  ·rw[XO m h,Vp,ih (m/10) (by omega)];have:(UInt8.ofNat (48+m%10)).toNat=48+m%10:=by simp;omega
   omega
def val(a:List UInt8):Int:=if(Qi a).2 then-(Qk (Qi a).1:Int) else Qk (Qi a).1
theorem XS(a:List UInt8):(Qi a).1.all Qx=true/\(∀b t,(Qi a).1=b::t->(b==48)=false)/\((Qi a).2=true->(Qi a).1≠[]):=by
 unfold Qi;simp only
 split
 ·rename_i h
  refine⟨?_,?_,?_⟩
  ·rw[List.all_eq_true] at h ⊢;exact fun x hx=>h x ((List.dropWhile_sublist _).subset hx)
  ·intro b t e;have e':(Lib.trimPrefix a [45]).dropWhile (·==48)=b::t:=e;clear e;have e:=e';have hne:(Lib.trimPrefix a [45]).dropWhile (·==48)≠[]:=by rw[e];simp
   have:=JZ (·==48) (Lib.trimPrefix a [45]) hne
   simp only[e,List.head_cons] at this;exact this
  ·intro hh;simp only[Bool.and_eq_true,Bool.not_eq_true'] at hh;intro e;have e':(Lib.trimPrefix a [45]).dropWhile (·==48)=[]:=e;rw[e'] at hh;simp at hh
 ·simp
theorem ZfC(a:List UInt8):(Qi a).1=QN (val a).natAbs:=by
 obtain⟨h1,h2,_⟩:=XS a
 unfold val
 split
 ·rw[Int.natAbs_neg,Int.natAbs_natCast,Jn h1 h2]
 ·rw[Int.natAbs_natCast,Jn h1 h2]
theorem ZcQ(a:List UInt8):(Qi a).2=decide (val a<0):=by
 obtain⟨h1,h2,h3⟩:=XS a
 unfold val
 cases hn:(Qi a).2 with
 |false=>simp
 |true=>
  have hne:=h3 hn
  have hv:Qk (Qi a).1≠0:=by
   cases he:(Qi a).1 with
   |nil=>exact absurd he hne
   |cons b t=>rw[he] at h1;exact ZaB h1 (h2 b t he)
  simp;omega
theorem YH(n:Int):Qa n=(if n<0 then[45] else[])++QN n.natAbs:=by
 unfold Qa QN
 by_cases h:n=0
 ·subst h;rfl
 ·rw[if_neg h,if_neg (by omega:n.natAbs≠0)]
  split<;>rfl
theorem ZaC(a:List UInt8):Yu a=Qa (val a):=by
 unfold Yu;rw[ZcQ,ZfC,YH]
 by_cases h:val a<0
 ·simp[h]
 ·simp[h]
def Vx:Nat->Nat->List UInt8
 |0,_=>[]
 |k+1,g=>Vx k (g/10)++[UInt8.ofNat (48+g%10)]
theorem ZfD(k g:Nat):(Vx k g).length=k:=by
 induction k generalizing g with
 |zero=>rfl
 |succ k ih=>rw[Vx,List.length_append,ih];rfl
theorem ZjG(k:Nat):∀(x g:Nat),x≠0->g<10^k->QN (10^k*x+g)=QN x++Vx k g:=by
 induction k with
 |zero=>intro x g hx hg;simp at hg;subst hg;simp[Vx]
 |succ k ih=>
  intro x g hx hg;rw[Nat.pow_succ] at hg
  have e1:10^(k+1)*x+g=10*(10^k*x+g/10)+g%10:=by
   rw[Nat.pow_succ,Nat.mul_add,<-Nat.mul_assoc,Nat.mul_comm 10 (10^k)];omega
  have hne:10^(k+1)*x+g≠0:=by
   have:=Nat.mul_pos (Nat.pow_pos (n:=k+1) (show 0<10 by decide)) (Nat.pos_of_ne_zero hx)
   omega
  rw[XO _ hne,e1,show(10*(10^k*x+g/10)+g%10)/10=10^k*x+g/10 by omega,show(10*(10^k*x+g/10)+g%10)%10=g%10 by omega,ih x (g/10) hx (by omega),Vx,List.append_assoc]
theorem ZhV(k:Nat):∀g:Nat,g<10^(k+1)->(Lib.decDigits g).length<=k+1/\List.replicate (k+1-(Lib.decDigits g).length) 48++Lib.decDigits g=Vx (k+1) g:=by
 induction k with
 |zero=>
  intro g hg;rw[Lib.decDigits,dif_pos (by omega)];refine⟨by simp,?_⟩;simp only[Vx,List.nil_append];rw[Nat.mod_eq_of_lt (by omega)];rfl
 |succ k ih=>
  intro g hg;rw[Nat.pow_succ] at hg
  by_cases h10:g<10
  ·rw[Lib.decDigits,dif_pos h10];refine⟨by simp,?_⟩;obtain⟨i1,i2⟩:=ih (g/10) (by omega)
   have e0:g/10=0:=by omega
   rw[e0,Lib.decDigits,dif_pos (by omega)] at i2;rw[Vx,e0,<-i2,Nat.mod_eq_of_lt h10];simp only[List.length_cons,List.length_nil,Nat.zero_add,Nat.add_sub_cancel];rw[List.replicate_succ',List.append_assoc,List.append_assoc];rfl
  ·rw[Lib.decDigits,dif_neg h10];obtain⟨i1,i2⟩:=ih (g/10) (by omega)
   refine⟨by rw[List.length_append];simp;omega,?_⟩;rw[Vx,<-i2,List.length_append,List.length_singleton,show k+1+1-((Lib.decDigits (g/10)).length+1)=k+1-(Lib.decDigits (g/10)).length by omega,List.append_assoc]
theorem Zg1(x g:Nat)(hx:x≠0)(hg:g<1000000000):QN (g+1000000000*x)=QN x++(List.replicate (9-(Lib.decDigits g).length) 48++Lib.decDigits g):=by
 have h:=ZjG 9 x g hx (by omega);rw[(ZhV 8 g (by omega)).2,<-h]
 congr 1
 omega
end
section
theorem Ja(a:List UInt8)(w:World)(ha:a.length<=1000000000):
 Calls Tryz.prog 110 #[S a] w fun e w'=>e=.returned (S (Yu a))/\Below w.1.size w w':=by
 have H:=jq (ZcY a w ha);have HC:=jq (show Yu a=if(Qi a).2 then 45::(Qi a).1 else(Qi a).1 from rfl);have hl:=XC a;have hl2:(Qi a).1.length<=1000000000:=by omega
 clear hl;generalize (Qi a).1=t at*;generalize (Qi a).2=neg at*;unfold S at*
 cases neg with
 |true=>
  have hsz:(⟨t.toArray⟩:ByteArray).size<=1000000000:=by rw[Qs];exact hl2
  go_enter Tryz.func110,Tryz.ntmps110
  go_wp2_with (go_at_call 153;refine H.out.mono ?_;rintro e w1 ⟨rfl,hb1⟩)
  go_ret
  rw[HC.out];exact⟨congrArg (fun b=>Ending.returned (.string b)) (ByteArray.mk_append_mk [45] t),hb1⟩
 |false=>
  go_enter Tryz.func110,Tryz.ntmps110
  go_wp2_with (go_at_call 153;refine H.out.mono ?_;rintro e w1 ⟨rfl,hb1⟩)
  go_ret
  rw[HC.out];exact⟨by simp,hb1⟩
end
section
def S1(s:List UInt8):List Value:=[S s]
theorem Xx(s:List UInt8):(S1 s).length=1:=rfl
theorem VR(s:List UInt8):∀u∈S1 s,u.oneCell'=true:=by intro u hu;simp[S1] at hu;subst hu;rfl
abbrev XA(w:World)(B:Nat)(A:Option Addr)(n:Nat)(xs:List (List UInt8)):Prop:=Sl S1 1 w B A n xs
theorem Sl.st{w:World}{B:Nat}{A:Option Addr}{n:Nat}{xs:List (List UInt8)}{i:Nat}(h:XA w B A n xs)(hi:i<n):
 ∃b off x,A=some ⟨b,off,none⟩/\b<B/\xs[i]?=some x/\w.cell? ⟨b,off+i,none⟩=some (.string ⟨x.toArray⟩):=by
 obtain⟨b,off,x,hA,hb,hx,hc⟩:=h.at_ hi
 have:=hc 0 _ rfl
 rw[Nat.mul_one,Nat.add_zero] at this;exact⟨b,off,x,hA,hb,hx,this⟩
end
section
theorem ZfW(g:Nat)(cb:Array Value)(p:(List UInt8)->Bool)(A:Option Addr)(n c:Nat)(xs:List (List UInt8))(w:World)(eg:∀args w,(callFunc g args).run Tryz.prog w=.ok (.enter g args) w)
 (hp:∀(W:World) (x:(List UInt8)),x∈xs->Below w.1.size w W->Calls Tryz.prog g (#[S x]++cb) W fun e w'=>e=.returned (.bool (p x))/\Below W.1.size W w') (hr:Sl S1 1 w w.1.size A n xs) (hn:n<=1000000000):
 Calls Tryz.prog 238 #[.slice A n c,.func (.func g) #[] cb] w fun e w'=>e=.returned (.int .i64 (ZcL p xs))/\Below w.1.size w w':=by
 have HPR:=jq hp;have HR:=jq hr;clear hp hr;go_enter Tryz.func238,Tryz.ntmps238
 go_wp2
 go_loopw [5,8] (fun _ i wr=>∃j:Nat,j<=n/\i=.int .i64 j/\Hid ((xs.take j).any p=false)/\Below w.1.size w wr) (fun _ i _=>n-(intOf i).toNat)
 case atStart=>exact⟨0,Nat.zero_le _,rfl,by show _=_;simp,Below.refl _ _⟩
 case round=>
  obtain⟨j,hj,rfl,HN,hb⟩:=hrel
  by_cases hlt:j<n
  ·obtain⟨b,off,r,rfl,hbl,hxj,hd⟩:=(HR.out.below hb).at_ hlt
   have d0:wr.cell? ⟨b,off+j,none⟩=some (.string ⟨r.toArray⟩):=by have:=hd 0 _ rfl;rwa [Nat.mul_one,Nat.add_zero] at this
   have HX:=jq hxj;have hcall:=HPR.out wr r (List.mem_of_getElem? hxj) hb;unfold S at hcall;clear hxj hd;have HC:=jq hcall;clear hcall
   cases hq:p r with
   |true=>
    rw[hq] at HC;have HQ:=jq hq;clear hq;go_wp2_with (go_at_fn g;refine(HC.out).mono ?_;rintro e w' ⟨rfl,hb'⟩)
    go_ret
    exact⟨Qp (Zc8 HX.out HQ.out HN.out).symm,hb.trans (hb'.mono hb.size)⟩
   |false=>
    rw[hq] at HC;have HQ:=jq hq;clear hq;go_wp2_with (go_at_fn g;refine(HC.out).mono ?_;rintro e w' ⟨rfl,hb'⟩)
    go_roundw
    case rel=>exact⟨j+1,by omega,by go_num,ZaH HX.out HN.out HQ.out,hb.trans (hb'.mono hb.size)⟩
    case measure=>simp[intOf];omega
  ·go_wp2
   go_ret
   exact⟨Qp (ZaG (by have:=HN.out;rwa [List.take_of_length_le (by have:=HR.out.1;omega)] at this)).symm,hb⟩
theorem Zc9(g:Nat)(cb:Array Value)(p:(List UInt8)->Bool)(A:Option Addr)(n c:Nat)(xs:List (List UInt8))(w:World)(eg:∀args w,(callFunc g args).run Tryz.prog w=.ok (.enter g args) w)
 (hp:∀(W:World) (x:(List UInt8)),x∈xs->Below w.1.size w W->Calls Tryz.prog g (#[S x]++cb) W fun e w'=>e=.returned (.bool (p x))/\Below W.1.size W w') (hr:Sl S1 1 w w.1.size A n xs) (hn:n<=1000000000):
 Calls Tryz.prog 202 #[.slice A n c,.func (.func g) #[] cb] w fun e w'=>e=.returned (.bool (xs.any p))/\Below w.1.size w w':=by
 have H:=jq (ZfW g cb p A n c xs w eg hp hr hn);clear hp eg hr;have e:=Zcs p xs;generalize ZcL p xs=z at*;have E:=jq e;clear e;go_enter Tryz.func202,Tryz.ntmps202
 go_wp2_with (go_at_call 238;refine(H.out).mono ?_;rintro e w' ⟨rfl,hb'⟩)
 go_ret
 exact⟨Qr E.out,hb'⟩
end
section
theorem Zf7(n:Int)(h0: -9223372036854775808<=n)(h1:n<=9223372036854775807)(w:World)(hp:Pow w):
 Calls Tryz.prog 172 #[.int .i64 n] w fun e w'=>e=.returned (S (Lib.itoa n))/\Below w.1.size w w':=by
 refine(Tryz.strconv_Itoa n h0 h1 w hp).mono ?_;rintro e w' ⟨rfl,k,os,rfl⟩;exact⟨rfl,Lib.below_grow _ w (Nat.le_refl _) k os⟩
theorem Zkh(n:Int)(h0: -9223372036854775808<=n)(h1:n<=9223372036854775807):(Lib.itoa n).length<=20:=by
 unfold Lib.itoa
 split
 ·rw[List.length_cons];have:=VZ n.natAbs (by omega)
  omega
 ·have:=VZ n.toNat (by omega)
  omega
theorem ZmQ(n:Int)(h0: -9223372036854775808<=n)(h1:n<=9223372036854775807)(w:World)(hp:Pow w):
 Calls Tryz.prog 130 #[.int .i64 n] w fun e w'=>e=.returned (S (ofL n))/\Below w.1.size w w':=by
 have H1:=jq (Zf7 n h0 h1 w hp);have hl:=Zkh n h0 h1;have H2:=jq (fun W=>Ja (Lib.itoa n) W (by omega));have HO:=jq (show ofL n=Yu (Lib.itoa n) from rfl);clear hl h0 h1 hp;generalize Lib.itoa n=s at*;unfold S at*
 go_enter Tryz.func130,Tryz.ntmps130
 go_wp2_with (first
  |(go_at_call 172;refine H1.out.mono ?_;rintro e w1 ⟨rfl,hb1⟩)
  |(go_at_call 110;refine(H2.out _).mono ?_;rintro e w2 ⟨rfl,hb2⟩))
 go_ret
 rw[HO.out];exact⟨rfl,hb1.trans (hb2.mono hb1.size)⟩
end
section
attribute [local go_sem] Oper.semAt_some
theorem Ze4{α:Type}{enc:α->List Value}{k base:Nat}{e:TypeId}{F:Fence}{nF:Nat}{P:Program}(w:World){ops:Array Oper}{rest:List Oper}{o:Oper}{a:Act}{Q:Exit->Act->World->Prop}(hgd:o.guard=none)(s x:Operand)(t:TypeId)
 (ho:o.op=.call {callee:=.builtin .append,args:=#[s,x],argTypes:=#[t,t]}) {bytes:Nat} (hT:Ji P t e k bytes) (he:∀x,(enc x).length=k) (h1:∀x,∀u∈enc x,u.oneCell'=true)
 (v:Value) (xs:List α) (hs:a.eval s=v) (hown:Own enc k e w base v xs) (B:Nat) (A:Option Addr) (m c:Nat) (ys:List α) (hx:a.eval x=.slice A m c) (hr:Sl enc k w B A m ys)
 (hlen:xs.length+m<=100000000000) (hbase:base<=w.1.size)
 (h:∀A' c' w',Own enc k e w' base (.slice A' (xs.length+m) c') (xs++ys)->w.grownBy w' v.ownBlock->(A'.map Addr.block=v.ownBlock\/A'.map Addr.block=some w.1.size)->wpListIn F nF P ops Q rest (a.put o.dst (.slice A' (xs.length+m) c')) w'):wpListIn F nF P ops Q (o::rest) a w:=by
 refine wpListIn_plain hgd fun K hK=> ?_
 obtain⟨A',c',w',hrun,h2,h3,h4⟩:=ZhU (P:=P) w t o.type hT he h1 v xs hown B A m c ys hr hlen hbase
 unfold Oper.wpIn;refine⟨by simp[Oper.about,ho,resolve,Target.leads,Sem.run_pure],?_⟩;rw[Oper.semAt_plain F _ _ (by rw[ho];intro c hc';cases hc')];simp[execOp,ho,resolve,invoke,builtin,hs,hx,hrun,Result.andThen]
 exact hK _ _ (h A' c' w' h2 h3 h4)
section
variable {w w' W W' X:World} {bs:List (Nat×Array Value×TypeId)} {row:Option Nat} {B:Nat}
def ZaJ(B:Nat)(W:World)(row:Option Nat):Prop:=∀r,row=some r->B<=r/\∃o:Obj,W.heap[r]?=some o/\o.isCells=false
theorem Kp.turned(h:Kp w bs W)(hg:W.grownBy W' row)(hr:ZaJ B W row)(hB:w.1.size<=B):Kp w bs W':=by
 refine⟨h.pow,h.bl.trans ⟨hg.os,hg.tape,hg.output,hg.size,fun k hk=>hg.block k (by have:=h.bl.size;omega) (fun e=> ?_)⟩,h.own,h.ord,fun b hb=> ?_⟩
 ·have:=(hr k e.symm).1
  omega
 ·have hb':=h.blk b hb;refine(hg.block b.1 hb'.lt (fun e=> ?_)).trans hb';obtain⟨_,o,ho,hc⟩:=hr b.1 e.symm
  unfold BlkB at hb';rw[hb'] at ho;injection ho with ho;rw[<-ho] at hc
  cases hc
theorem Own.turned{α:Type}{enc:α->List Value}{k base:Nat}{e:TypeId}{v:Value}{xs:List α}(h:Own enc k e W base v xs)(hg:W.grownBy W' row)(hr:ZaJ B W row):Own enc k e W' base v xs:=by
 refine World.ownsRow.kept h hg ?_
 rcases h.2 with ⟨rfl,_⟩|⟨g,cap,cur,rfl,_,hgc,_⟩
 ·exact .inl rfl
 ·right
  intro e;obtain⟨_,o,ho,hc⟩:=hr g (by rw[<-e];rfl)
  rw[hgc] at ho;injection ho with ho;rw[<-ho] at hc
  cases hc
theorem Box.turned{b:Nat}{t:TypeId}{v:Value}(h:Box W b t v)(hg:W.grownBy W' row)(hr:ZaJ B W row):Box W' b t v:=by
 refine(hg.block b h.lt (fun e=> ?_)).trans h;obtain⟨_,o,ho,hc⟩:=hr b e.symm
 unfold Box at h;rw[h] at ho;injection ho with ho;rw[<-ho] at hc
 cases hc
theorem JL(hb:Below W.1.size W W'):W.grownBy W' none:=⟨hb.os,hb.tape,hb.output,hb.size,fun k hk _=>hb.block k hk⟩
theorem ZbA(hb:Below W.1.size W W')(B:Nat):KeepsFrom B W W':=(KeepsOthers.of_grownBy (JL hb) (fun _ _ e=>by cases e)).from B
def KeepS(S:Nat->Prop)(W W':World):Prop:=W.1.size<=W'.1.size/\∀b,S b->b<W.1.size->W'.heap[b]?=W.heap[b]?
theorem KeepS.refl(S:Nat->Prop)(W:World):KeepS S W W:=⟨Nat.le_refl _,fun _ _ _=>rfl⟩
theorem KeepS.trans{S:Nat->Prop}(h:KeepS S W W')(k:KeepS S W' X):KeepS S W X:=⟨Nat.le_trans h.1 k.1,fun b hb hl=>(k.2 b hb (Nat.lt_of_lt_of_le hl h.1)).trans (h.2 b hb hl)⟩
theorem KeepS.below{S:Nat->Prop}(hb:Below W.1.size W W'):KeepS S W W':=⟨hb.size,fun b _ hl=>hb.block b hl⟩
theorem KeepS.set{S:Nat->Prop}{p:Addr}(hp:¬S p.block)(v:Value):KeepS S W (W.setCell p v):=⟨by simp,fun b hb _=>Below.heap_setCell W p v b (fun e=>hp (e▸hb))⟩
theorem KeepS.put{S:Nat->Prop}{l:Nat}(hl:¬S l)(o:Obj):KeepS S W (W.putObj l o):=⟨by simp,fun b hb _=>World.putObj_heap_other (fun e=>hl (e▸hb))⟩
theorem KeepS.grown{S:Nat->Prop}(hg:W.grownBy W' row)(hr:∀r,row=some r->¬S r):KeepS S W W':=⟨hg.size,fun b hb hl=>hg.block b hl (fun e=>hr b e.symm hb)⟩
theorem KeepS.sl{α:Type}{enc:α->List Value}{k n:Nat}{A:Option Addr}{xs:List α}{S:Nat->Prop}{N:Nat}(h:KeepS S W W')(hs:Sl enc k W N A n xs)(hN:∀b,b<N->S b/\b<W.1.size):Sl enc k W' N A n xs:=
 hs.keep fun p hp=>World.cell?_of_block (h.2 p.block (hN _ hp).1 (hN _ hp).2)
theorem KeepS.box{b:Nat}{t:TypeId}{v:Value}{S:Nat->Prop}(h:KeepS S W W')(hs:Box W b t v)(hb:S b):Box W' b t v:=(h.2 b hb hs.lt).trans hs
theorem KeepS.blk{b:Nat}{t:TypeId}{cs:Array Value}{S:Nat->Prop}(h:KeepS S W W')(hs:BlkB W b cs t)(hb:S b):BlkB W' b cs t:=(h.2 b hb hs.lt).trans hs
end
end
section
def SeenB(w:World)(b n:Nat)(l:List (List UInt8)):Prop:=
 ∃D:DataW Unit,w.ownsMap Tryz.prog 9 (plainElem Tryz.prog 4) b n D/\Maps.IsMap D/\∀s,D.atKey (.string s) (.lit (.bool false))=.lit (.bool (decide (s∈l)))
theorem Zi8(w:World):SeenB (w.alloc (.map #[] 0)) w.1.size 0 []:=
 ⟨.map [],World.ownsMap_made _ _ _ _,⟨[],rfl⟩,fun s=>by simp[DataW.atKey]⟩
section
variable {w W W':World} {p:Nat} {bs:List (Nat×Array Value×TypeId)}
theorem Kp.bare(h:Kp w bs W):Kp w [] W:=⟨h.pow,h.bl,fun _ h=>by simp at h,.nil,fun _ h=>by simp at h⟩
theorem Kp.turn(h:Kp w [] W)(hg:W.grownBy W' (some p))(hp:w.1.size<=p):Kp w [] W':=
 ⟨h.pow,h.bl.trans ⟨hg.os,hg.tape,hg.output,hg.size,fun k hk=>hg.block k (by have:=h.bl.size;omega) (fun e=>by injection e with e;omega)⟩,fun _ h=>by simp at h,.nil,fun _ h=>by simp at h⟩
end
section
variable {w w':World} {b n:Nat} {l:List (List UInt8)} {t:TypeId}
theorem SeenB.lt(h:SeenB w b n l):b<w.1.size:=h.elim fun _ h=>h.1.lt
theorem SeenB.here(h:SeenB w b n l)(hb:Below w.1.size w w'):SeenB w' b n l:=by
 obtain⟨D,⟨es,clock,h1,h2⟩,h3⟩:=h
 exact⟨D,⟨es,clock,(hb.block b (Array.getElem?_eq_some_iff.1 h1).1).trans h1,h2⟩,h3⟩
theorem SeenB.alloc(h:SeenB w b n l)(o:Obj):SeenB (w.alloc o) b n l:=h.here ((Below.refl _ _).alloc (Nat.le_refl _) o)
theorem SeenB.drew(h:SeenB w b n l):SeenB w.drew b n l:=h
theorem SeenB.far(h:SeenB w b n l){a:Addr}(hb:b≠a.block)(u:Value):SeenB (w.setCell a u) b n l:=by
 obtain⟨D,⟨es,clock,h1,h2⟩,h3⟩:=h
 exact⟨D,⟨es,clock,(Below.heap_setCell w a u b hb).trans h1,h2⟩,h3⟩
theorem SeenB.look(h:SeenB w b n l)(ht:Tryz.prog.underlying t=some (.map 9 4)){s:List UInt8}(hs:s.length<=maxLen):(Instr.lookup t (.map (some b)) (.string ⟨s.toArray⟩) false).run Tryz.prog w=.ok (.bool (decide (s∈l))) w:=by
 obtain⟨D,h1,h2,h3⟩:=h
 obtain⟨v,ps,hr,hv⟩:=h1.lookup (Maps.string_keyed Tryz.underlying9) ht (z:=.bool false) (by kernel_rfl) (plainElem_bool Tryz.underlying4 false) (key:=.string ⟨s.toArray⟩) (kl:=.string s) (by
  rw[Go.WideMaps.keyOf_string_mk Tryz.underlying9 (show(ByteArray.mk s.toArray).size<=maxLen from hs)])
 rw[h3 s] at hv;unfold plainElem at hv;rw[show Tryz.prog.underlying 4=some .bool from Tryz.underlying4] at hv
 cases v<;>simp at hv
 rw[hr,hv.1]
theorem SeenB.put(h:SeenB w b n l)(ht:Tryz.prog.underlying t=some (.map 9 4))(hn:n<maxLen){s:List UInt8}(hs:s.length<=maxLen):
 ∃w',(Instr.mapUpdate t (.map (some b)) (.string ⟨s.toArray⟩) (.bool true)).run Tryz.prog w=.ok () w'/\SeenB w' b (n+1) (s::l)/\w.grownBy w' (some b):=by
 obtain⟨D,h1,h2,h3⟩:=h
 obtain⟨w',hr,ho,hg⟩:=h1.update (Maps.string_keyed Tryz.underlying9) ht hn (key:=.string ⟨s.toArray⟩) (kl:=.string s) (by
  rw[Go.WideMaps.keyOf_string_mk Tryz.underlying9 (show(ByteArray.mk s.toArray).size<=maxLen from hs)]) (plainElem_bool Tryz.underlying4 true)
 refine⟨w',hr,⟨_,ho,h2.put _ _,fun s'=> ?_⟩,hg⟩
 by_cases e:s'=s
 ·subst e;rw[Maps.atKey_put_same h2 (by simp[WideAt.IsKeyLit])];simp
 ·rw[Maps.atKey_put_other (by intro h;injection h with h;exact e h),h3 s'];simp[e]
end
end
section
theorem Zce{w0 W W':World}{S:Nat->Prop}{name:String}{v v0:Array Value}(h0:w0.var? Tryz.prog name=some v0)(hS:∀b,b<w0.1.size->S b)(h:W.var? Tryz.prog name=some v)(hk:KeepS S W W'):W'.var? Tryz.prog name=some v:=by
 unfold World.var? at*
 cases hg:Tryz.prog.globalNamed name with
 |none=>simp[hg] at h
 |some g=>
  simp only[hg,Option.bind_some] at h h0 ⊢
  have hlt:∀{X:World} {u:Array Value},(match X.heap[g]? with|some (.cells cs _ _)=>some cs|_=>none)=some u->g<X.1.size:=by
   intro X u hu
   rcases Nat.lt_or_ge g X.1.size with h'|h'
   ·exact h'
   ·rw[Array.getElem?_eq_none h'] at hu;simp at hu
  rw[hk.2 g (hS g (hlt h0)) (hlt h)];exact h
theorem Zcf{w0:World}(h0:Env w0){S:Nat->Prop}(hS:∀b,b<w0.1.size->S b):∀W W',Env W->KeepS S W W'->Env W':=fun W W' h hk=>by
 obtain⟨t1,p1,e1⟩:=h0.syn
 obtain⟨t2,p2,e2⟩:=h0.rng
 refine⟨Zce h0.pow hS h.pow hk,?_,?_⟩
 ·obtain⟨tp,p,e⟩:=h.syn;exact⟨tp,p,Zce e1 hS e hk⟩
 ·obtain⟨tp,p,e⟩:=h.rng;exact⟨tp,p,Zce e2 hS e hk⟩
end
section
theorem ZhB(l:List UInt8)(a b:Nat):(⟨l.toArray⟩:ByteArray).extract a b=⟨((l.take b).drop a).toArray⟩:=by
 apply ByteArray.ext
 rw[ByteArray.data_extract,List.extract_toArray,List.extract_eq_take_drop,List.drop_take]
theorem Zas{l:List UInt8}{k:Nat}{b:UInt8}(h:l[k]?=some b)(hk:k<(⟨l.toArray⟩:ByteArray).size):(⟨l.toArray⟩:ByteArray)[k]=b:=by
 obtain⟨h1,rfl⟩:=List.getElem?_eq_some_iff.1 h
 rfl
theorem Zir(b:UInt8)(t:List UInt8)(n:Nat)(hn:n=t.length+1):(⟨(b::t).toArray⟩:ByteArray).extract 1 n=⟨t.toArray⟩:=by
 rw[ZhB,hn,List.take_of_length_le (by simp)];rfl
theorem Zjh(b:UInt8)(t:List UInt8):Lib.hasPrefix (b::t) [45]=(b==45):=by
 unfold Lib.hasPrefix;simp only[List.isPrefixOf,Bool.and_true];exact Bool.beq_comm
theorem ZkK(b:UInt8)(t:List UInt8):Lib.trimPrefix (b::t) [45]=if b==45 then t else b::t:=by
 unfold Lib.trimPrefix;rw[Zjh];rfl
theorem ZkL(b:UInt8)(k:Nat)(hk:k<256):((b.toNat:Int)==(k:Int))=(b==UInt8.ofNat k):=by
 rw[Bool.eq_iff_iff];simp only[beq_iff_eq]
 constructor
 ·intro h
  apply UInt8.toNat_inj.1
  rw[UInt8.toNat_ofNat'];omega
 ·intro h;rw[h,UInt8.toNat_ofNat'];omega
theorem Zgt{s:List UInt8}{k:Nat}{b:UInt8}(h:s[k]?=some b)(ha:(s.take k).all Qx=true)(hb:Qx b=true):(s.take (k+1)).all Qx=true:=by
 obtain⟨hk,rfl⟩:=List.getElem?_eq_some_iff.1 h
 rw[List.take_succ_eq_append_getElem hk,List.all_append,ha];simpa using hb
theorem Zis{s:List UInt8}{k:Nat}{b:UInt8}(h:s[k]?=some b)(hb:¬Qx b=true):s.all Qx=false:=by
 rw[Bool.eq_false_iff];intro h2;rw[List.all_eq_true] at h2;exact hb (h2 b (List.mem_of_getElem? h))
theorem Xu(a:List UInt8)(w:World)(ha:a.length<=1000000000):
 Calls Tryz.prog 115 #[S a] w fun e w'=>e=.returned (.tuple #[S (Qi a).1,.bool (Qi a).2])/\w=w':=by
 have HDG:=jq (show Qi a=if(Lib.trimPrefix a [45]).all Qx then((Lib.trimPrefix a [45]).dropWhile (·==48),Lib.hasPrefix a [45]&& !((Lib.trimPrefix a [45]).dropWhile (·==48)).isEmpty) else([],false) from rfl);have hl:=Vw a [45];obtain⟨s,hs⟩:∃s,Lib.trimPrefix a [45]=s:=⟨_,rfl⟩
 obtain⟨neg,hn⟩:∃neg,Lib.hasPrefix a [45]=neg:=⟨_,rfl⟩
 rw[hs,hn] at HDG;rw[hs] at hl;have HS:=jq hs;have HN:=jq hn;clear hs hn;unfold S at*
 go_enter Tryz.func115,Tryz.ntmps115
 go_upto_region 2 with (fail)
 go_cut [5] (fun v wc=>v=.bool neg/\wc=w)
 case first=>
  cases a with
  |nil=>
   go_wp2
   go_meet
   exact⟨by rw[<-HN.out];rfl,rfl⟩
  |cons b t=>
   have h0:0<(⟨(b::t).toArray⟩:ByteArray).size:=by rw[Qs];simp
   have hb:(⟨(b::t).toArray⟩:ByteArray)[0]=b:=Zas rfl h0
   go_wp2
   go_meet
   exact⟨by rw[<-HN.out,Zjh];exact congrArg Value.bool (ZkL b 45 (by omega)),rfl⟩
 case rest=>
 obtain⟨rfl,rfl⟩:=hcut
 go_upto_if 16 with (fail)
 go_cut [4] (fun v w1=>v=.string ⟨s.toArray⟩/\w1=wc)
 case first=>
  cases a with
  |nil=>
   obtain rfl:false=neg:=HN.out;obtain rfl:[]=s:=HS.out
   go_wp2
   go_meet
   exact⟨rfl,rfl⟩
  |cons b t=>
   have hlen:(⟨(b::t).toArray⟩:ByteArray).size=t.length+1:=by rw[Qs];rfl
   have HLE:=jq hlen
   cases neg with
   |true=>
    have HT:=jq (show t=s by have h1:=HS.out;have h2:=HN.out;rw[Zjh] at h2;rw[ZkK,h2] at h1;exact h1)
    go_wp2
    go_meet
    exact⟨by rw[<-HT.out,Zir b t _ rfl],rfl⟩
   |false=>
    have HT:=jq (show b::t=s by have h1:=HS.out;have h2:=HN.out;rw[Zjh] at h2;rw[ZkK,h2] at h1;exact h1);clear hlen
    go_wp2
    go_meet
    exact⟨by rw[<-HT.out],rfl⟩
 case rest=>
 obtain⟨rfl,rfl⟩:=hcut
 have hsl:s.length<=1000000000:=by omega
 clear hl ha HS HN
 go_wp2
 go_loop [6] (fun i=>∃k:Nat,k<=s.length/\i=.int .i64 k/\Hid ((s.take k).all Qx=true)) (fun i=>s.length-(intOf i).toNat)
 case atStart=>exact⟨0,Nat.zero_le _,rfl,by show _=_;rfl⟩
 case round=>
  obtain⟨k,hk,rfl,HA⟩:=hrel
  by_cases hlt:k<s.length
  ·obtain⟨b,hb⟩:∃b,s[k]?=some b:=⟨_,List.getElem?_eq_getElem hlt⟩
   have hks:k<(⟨s.toArray⟩:ByteArray).size:=by rw[Qs];exact hlt
   have hbk:(⟨s.toArray⟩:ByteArray)[k]=b:=Zas hb hks;have HB:=jq hb;clear hb
   by_cases hd:Qx b=true
   ·have HST:=jq (Zgt HB.out HA.out hd);obtain⟨h1,h2⟩:=(QM b).1 hd
    clear hd
    go_wp2
    all_goals first
     |(go_round
       case rel=>exact⟨k+1,by omega,by go_num,HST⟩
       case measure=>simp[intOf];omega)
     |(exfalso;omega)
   ·have HF:=jq (Zis HB.out hd)
    have hnd:b.toNat<48\/57<b.toNat:=by
     rw[QM] at hd;omega
    clear hd
    rcases hnd with hnd|hnd
    all_goals
     go_wp2
     go_ret2
     rw[HDG.out,HF.out];exact⟨rfl,rfl⟩
  ·have HALL:=jq (show s.all Qx=true by have:=HA.out;rwa [List.take_of_length_le (by omega)] at this);rw[HALL.out] at HDG;simp only[if_true] at HDG
   go_wp2
   go_loop [4] (fun v=>∃t:List UInt8,v=.string ⟨t.toArray⟩/\t.length<=1000000000/\Hid (s.dropWhile (·==48)=t.dropWhile (·==48))) (fun v=>match v with| .string b=>b.size|_=>0)
   case atStart=>exact⟨s,rfl,hsl,by show _=_;rfl⟩
   case round=>
    obtain⟨t,rfl,htl,HD⟩:=hrel
    cases t with
    |nil=>
     cases neg<;>(
      go_wp2
      go_ret2
      rw[HDG.out,HD.out];exact⟨rfl,rfl⟩)
    |cons b t=>
     have hlen:(⟨(b::t).toArray⟩:ByteArray).size=t.length+1:=by rw[Qs];rfl
     have h0:0<(⟨(b::t).toArray⟩:ByteArray).size:=by rw[Qs];simp
     have hb:(⟨(b::t).toArray⟩:ByteArray)[0]=b:=Zas rfl h0;have HU:=jq (show((b.toNat:Int)==48)=(b==48) from ZkL b 48 (by omega))
     cases hz:(b==48) with
     |true=>
      rw[hz] at HU;have hu:=HU.out;have HD2:=jq (show s.dropWhile (·==48)=t.dropWhile (·==48) by rw[HD.out,List.dropWhile_cons,hz];rfl);have HTM:=jq (Zir b t (t.length+1) rfl);clear hz
      go_wp2
      go_round
      case rel=>exact⟨t,by rw[HTM.out],by simp at htl;omega,HD2⟩
      case measure=>rw[HTM.out];show(⟨t.toArray⟩:ByteArray).size<(⟨(b::t).toArray⟩:ByteArray).size;rw[Qs,Qs];simp
     |false=>
      rw[hz] at HU;have hu:=HU.out;have HD2:=jq (show s.dropWhile (·==48)=b::t by rw[HD.out,List.dropWhile_cons,hz];rfl);have hte3:(!(⟨(b::t).toArray⟩:ByteArray).toList.isEmpty)=true:=by rw[Lib.toList_data];rfl
      clear hz
      cases neg<;>(
       go_wp2
       go_ret2
       rw[HDG.out,HD2.out];exact⟨rfl,rfl⟩)
theorem Zl4(a:List UInt8):Qk (Qi a).1=(val a).natAbs:=by
 unfold val
 split<;>omega
theorem Ya(a:List UInt8)(w:World)(ha:a.length<=1000000000):Calls Tryz.prog 114 #[S a] w fun e w'=>e=.returned (S (Qa (val a)))/\w=w':=by
 have H:=jq (Xu a w ha);have hl:=XC a;have HC:=jq (show Qa (val a)=if(Qi a).2 then 45::(Qi a).1 else(Qi a).1 by rw[<-ZaC];rfl);have hl2:(Qi a).1.length<=1000000000:=by omega
 clear hl ha;generalize Qa (val a)=res at*;generalize (Qi a).1=t at*;generalize (Qi a).2=neg at*;unfold S at*
 cases neg with
 |true=>
  have hsz:(⟨t.toArray⟩:ByteArray).size<=1000000000:=by rw[Qs];exact hl2
  go_enter Tryz.func114,Tryz.ntmps114
  go_wp2_with (go_at_call 115;refine H.out.mono ?_;rintro e w1 ⟨rfl,rfl⟩)
  go_ret
  rw[HC.out];exact⟨congrArg (fun b=>Ending.returned (.string b)) (ByteArray.mk_append_mk [45] t),rfl⟩
 |false=>
  go_enter Tryz.func114,Tryz.ntmps114
  go_wp2_with (go_at_call 115;refine H.out.mono ?_;rintro e w1 ⟨rfl,rfl⟩)
  go_ret
  rw[HC.out];exact⟨by simp,rfl⟩
theorem ZbL(a:List UInt8)(w:World)(ha:a.length<=1000000000):Calls Tryz.prog 92 #[S a] w fun e w'=>e=.returned (S (Qa (-val a)))/\w=w':=by
 have H:=jq (Xu a w ha);have hl:=XC a;have hl2:(Qi a).1.length<=1000000000:=by omega
 have HD:=jq (ZfC a);have HN:=jq (ZcQ a)
 have HC:=jq (show Qa (-val a)=if(Qi a).2||((Qi a).1==[]) then(Qi a).1 else 45::(Qi a).1 by
  rw[YH,Int.natAbs_neg,<-HD.out,HN.out]
  by_cases h1:val a<0
  ·rw[if_neg (by omega)];simp[h1]
  ·by_cases h0:val a=0
   ·have:(Qi a).1=[]:=by rw[HD.out,h0];rfl
    rw[this];simp[h0]
   ·have:(Qi a).1≠[]:=fun h=>by
     have h2:=Zl4 a;rw[h] at h2;simp[Qk] at h2
     omega
    rw[if_pos (by omega)];simp[h1,this])
 clear hl ha HD HN;generalize Qa (-val a)=res at*;generalize (Qi a).1=t at*;generalize (Qi a).2=neg at*;unfold S at*
 have hsz:(⟨t.toArray⟩:ByteArray).size<=1000000000:=by rw[Qs];exact hl2
 cases neg with
 |true=>
  go_enter Tryz.func92,Tryz.ntmps92
  go_wp2_with (go_at_call 115;refine H.out.mono ?_;rintro e w1 ⟨rfl,rfl⟩)
  go_ret
  rw[HC.out];exact⟨by simp,rfl⟩
 |false=>
  cases ht:(t==[]) with
  |true=>
   rw[ht] at HC;obtain rfl:t=[]:=eq_of_beq ht;clear ht;go_enter Tryz.func92,Tryz.ntmps92
   go_wp2_with (go_at_call 115;refine H.out.mono ?_;rintro e w1 ⟨rfl,rfl⟩)
   go_ret
   rw[HC.out];exact⟨by simp,rfl⟩
  |false=>
   rw[ht] at HC
   have hte:t.isEmpty=false:=by cases t with|nil=>simp at ht|cons _ _=>rfl
   have hte2:(⟨t.toArray⟩:ByteArray).toList.isEmpty=false:=by rw[Lib.toList_data];simpa using hte
   go_enter Tryz.func92,Tryz.ntmps92
   go_wp2_with (go_at_call 115;refine H.out.mono ?_;rintro e w1 ⟨rfl,rfl⟩)
   go_ret
   rw[HC.out];exact⟨congrArg (fun b=>Ending.returned (.string b)) (ByteArray.mk_append_mk [45] t),rfl⟩
def QL(a:List UInt8):Int×Bool:=if(Qi a).1.length<=17 then(val a,true) else(0,false)
theorem ZeD{s:List UInt8}{k:Nat}{b:UInt8}(h:s[k]?=some b):Qk (s.take (k+1))=10*Qk (s.take k)+(b.toNat-48):=by
 obtain⟨hk,rfl⟩:=List.getElem?_eq_some_iff.1 h
 rw[List.take_succ_eq_append_getElem hk,Vp]
theorem ZbM{s:List UInt8}(hd:s.all Qx=true)(k:Nat)(hk:k<=17):Qk (s.take k)<100000000000000000:=by
 have h:(s.take k).all Qx=true:=by
  rw[List.all_eq_true] at hd ⊢;exact fun x hx=>hd x (List.mem_of_mem_take hx)
 have h1:=XR h;have h2:10^(s.take k).length<=10^17:=Nat.pow_le_pow_right (by omega) (by rw[List.length_take];omega);omega
theorem Xy(a:List UInt8)(w:World)(ha:a.length<=1000000000):Calls Tryz.prog 93 #[S a] w fun e w'=>e=.returned (.tuple #[.int .i64 (QL a).1,.bool (QL a).2])/\w=w':=by
 have H:=jq (Xu a w ha);have hl:=XC a;have HSH:=jq (show QL a=if(Qi a).1.length<=17 then((if(Qi a).2 then-(Qk (Qi a).1:Int) else Qk (Qi a).1),true) else(0,false) from rfl);have HDG:=jq (XS a).1;have hl2:(Qi a).1.length<=1000000000:=by omega
 clear hl ha;generalize QL a=res at*;generalize (Qi a).1=s at*;generalize (Qi a).2=neg at*;unfold S at*
 by_cases h17:s.length<=17
 ·rw[if_pos h17] at HSH;clear hl2;go_enter Tryz.func93,Tryz.ntmps93
  go_wp2_with (go_at_call 115;refine H.out.mono ?_;rintro e w1 ⟨rfl,rfl⟩)
  go_loop [6,7] (fun n i=>∃(k m:Nat),k<=s.length/\i=.int .i64 k/\n=.int .i64 m/\m<100000000000000000/\Hid (m=Qk (s.take k))) (fun _ i=>s.length-(intOf i).toNat)
  case atStart=>exact⟨0,0,Nat.zero_le _,rfl,rfl,by omega,by show _=_;rfl⟩
  case round=>
   obtain⟨k,m,hk,rfl,rfl,hm,HM⟩:=hrel
   by_cases hlt:k<s.length
   ·obtain⟨b,hb⟩:∃b,s[k]?=some b:=⟨_,List.getElem?_eq_getElem hlt⟩
    have hks:k<(⟨s.toArray⟩:ByteArray).size:=by rw[Qs];exact hlt
    have hbk:(⟨s.toArray⟩:ByteArray)[k]=b:=Zas hb hks;have hdb:=(QM b).1 (by have:=HDG.out;rw[List.all_eq_true] at this;exact this b (List.mem_of_getElem? hb));obtain⟨h1,h2⟩:=hdb
    have HST:=jq (ZeD hb);have hm2:=ZbM HDG.out (k+1) (by omega);rw[HST.out,<-HM.out] at hm2;clear hb
    go_wp2
    go_round
    case rel=>exact⟨k+1,10*m+(b.toNat-48),by omega,by go_num,by rw[show((10*m+(b.toNat-48):Nat):Int)=10*(m:Int)+((b.toNat:Int)-48) by omega],hm2,by show _=_;rw[HST.out,<-HM.out]⟩
    case measure=>simp[intOf];omega
   ·have HV:=jq (show m=Qk s by have:=HM.out;rwa [List.take_of_length_le (by omega)] at this)
    cases neg with
    |true=>
     go_wp2
     go_ret2
     rw[HSH.out,<-HV.out];exact⟨by simp,rfl⟩
    |false=>
     go_wp2
     go_ret2
     rw[HSH.out,<-HV.out];exact⟨by simp,rfl⟩
 ·rw[if_neg h17] at HSH;go_enter Tryz.func93,Tryz.ntmps93
  go_wp2_with (go_at_call 115;refine H.out.mono ?_;rintro e w1 ⟨rfl,rfl⟩)
  go_ret2
  rw[HSH.out];exact⟨rfl,rfl⟩
end
section
def Znr(N:Nat)(s m:Value):Prop:=∃(k:Nat) (t:List UInt8),m=.int .i64 k/\(k:Int)<=9223372036854775807/\s=.string ⟨t.toArray⟩/\QN N=QN k++t
theorem Zl6(n:Int)(h0:0<n)(h1:n<=9223372036854775807)(w:World):
 Calls Tryz.prog 94 #[.int .i64 n] w fun e w'=>e=.returned (S (Qa n))/\w=w':=by
 have hne:(n==0)=false:=by simp;omega
 have HT:=jq (show Qa n=QN n.natAbs by unfold Qa QN;rw[if_neg (by omega),if_neg (by omega),if_neg (by omega)]);have HL:=jq (ZfA n.natAbs (by omega));have hnn:n=(n.natAbs:Int):=by omega
 generalize n.natAbs=N at*;have HNN:=jq hnn;clear hnn;go_enter Tryz.func94,Tryz.ntmps94
 go_wp2
 go_loop [3,4,5] (fun s m _=>Znr N s m) (fun _ m _=>(intOf m).toNat)
 case atStart=>exact⟨N,[],by rw[HNN.out],by rw[<-HNN.out];omega,rfl,by simp⟩
 case round=>
  obtain⟨k,t,rfl,hk,rfl,hd⟩:=hrel
  have HD:=jq hd;clear hd
  by_cases hk0:k=0
  ·subst hk0
   go_wp2
   go_ret
   refine⟨?_,rfl⟩;rw[HT.out,HD.out];rfl
  ·have hkb:((k:Int) !=0)=true:=by simp;omega
   have HS:=jq (XO k hk0);have htl:t.length<=19:=by have h1:=HL.out;rw[HD.out,List.length_append] at h1;omega
   go_wp2
   all_goals first
    |(exfalso
      have:=Vj k
      omega)
    |(go_round
      case rel=>
       refine⟨k/10,UInt8.ofNat (48+k%10)::t,by go_num,by omega,?_,?_⟩
       ·rw[Zbh];exact congrArg Value.string (Jj [UInt8.ofNat (48+k%10)] t)
       ·rw[HD.out,HS.out,List.append_assoc];rfl
      case measure=>simp[intOf];omega)
end
section
def Bz(W X:World):Prop:=Below W.1.size W X
section
variable {W X Y:World}
theorem Bz.refl(W:World):Bz W W:=Below.refl _ _
theorem Bz.drew(h:Bz W X):Bz W X.drew:=Below.drew h
theorem Bz.size(h:Bz W X):W.1.size<=X.1.size:=Below.size h
theorem Bz.alloc(h:Bz W X)(o:Obj):Bz W (X.alloc o):=Below.alloc h (Below.size h) o
theorem Bz.call(h:Bz W X)(hb:Below X.1.size X Y):Bz W Y:=Below.trans h (hb.mono (Below.size h))
theorem Bz.set{p:Nat}(h:Bz W X)(hp:W.1.size<=p)(j:Nat)(u:Value):Bz W (X.setCell ⟨p,j,none⟩ u):=Below.setCell h hp u
variable {w:World} {bs:List (Nat×Array Value×TypeId)} {p:Nat} {cs:Array Value} {T:TypeId}
theorem Kp.join(h:Kp w bs W)(hz:Bz W X)(hq:BlkB X p cs T)(hp:W.1.size<=p):Kp w ((p,cs,T)::bs) X:=by
 have h':=h.here hz;refine⟨h'.pow,h'.bl,?_,?_,?_⟩
 ·intro b hb
  rcases List.mem_cons.1 hb with rfl|hb
  ·exact Nat.le_trans h.bl.size hp
  ·exact h.own b hb
 ·refine .cons (fun b hb=> ?_) h.ord;obtain⟨x,hx,rfl⟩:=List.mem_map.1 hb
  have:=(h.blk x hx).lt
  exact fun e=>by simp only at e;omega
 ·intro b hb
  rcases List.mem_cons.1 hb with rfl|hb
  ·exact hq
  ·exact h'.blk b hb
theorem Kp.set2{a b:Value}(h:Kp w ((p,#[a,b],T)::bs) X)(c d:Value):Kp w ((p,#[c,d],T)::bs) ((X.setCell ⟨p,0,none⟩ c).setCell ⟨p,1,none⟩ d):=by
 have h2:=(h.set 0 0 rfl c).set 0 1 rfl d;exact h2
theorem Kp.tail{b:Nat×Array Value×TypeId}(h:Kp w (b::bs) X):Kp w bs X:=
 ⟨h.pow,h.bl,fun x hx=>h.own x (List.mem_cons_of_mem _ hx),(List.pairwise_cons.1 h.ord).2,fun x hx=>h.blk x (List.mem_cons_of_mem _ hx)⟩
end
end
section
section
variable {P:Program} {ops:Array Oper} {Q:Exit->Act->World->Prop} {md:Region.Mode} {l n:Nat}
end
end
end Go.Proofs.YtpnncoinlopndaaGreatDoor
