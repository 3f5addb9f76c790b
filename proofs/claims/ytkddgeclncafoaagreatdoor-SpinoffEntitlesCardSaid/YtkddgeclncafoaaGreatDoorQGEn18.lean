/- Sx, Nm, RNm, Lt1, Fa1. -/
import Derived.Test.YtkddgeclncafoaaGreatDoorQGEn31
import Derived.Shelf.SlSortCmp.NoneTotal
import Derived.Sort.OwnSorted
import Derived.Laws.IdiomStrings
import Derived.OwnWalk
set_option maxRecDepth 20000
set_option maxHeartbeats 1000000
namespace Go.Proofs.YtkddgeclncafoaaGreatDoor
open Go.Lib renaming hid→jq
section
open Go.RowKit Go.Shelf Go.Sort
def ZiY(rs:List Int)(i k:Nat):Int:=if Qt (rs.getD k 0-rs.getD i 0)≠0 then Qt (rs.getD k 0-rs.getD i 0) else Lib.compareInt i k
def Zha(n:Nat)(i:Fin n):Value:=.int .i64 (i.val:Nat)
def ZfV(rs:List Int)(n:Nat)(x y:Fin n):Int:=ZiY rs x.val y.val
theorem ltF(rs:List Int)(n:Nat)(x y:Fin n):ltOf (ZfV rs n) x y= !VZ rs y.val x.val:=by
 unfold ltOf ZfV ZiY VZ Qt Lib.compareInt;generalize rs.getD x.val 0=a;generalize rs.getD y.val 0=b;rw[Bool.eq_iff_iff];simp only[decide_eq_true_eq,Bool.not_eq_true',decide_eq_false_iff_not]
 repeat' split
 all_goals omega
theorem Zpd(rs:List Int)(n:Nat):SWO (ltOf (ZfV rs n)) where
 irrefl x:=by rw[ltF];unfold VZ;simp
 trans x y z h1 h2:=by rw[ltF] at *; unfold VZ at *; simp only[Bool.not_eq_true',decide_eq_false_iff_not] at *; omega
 ntrans x y z h1 h2:=by rw[ltF] at *; unfold VZ at *; simp only[Bool.not_eq_false',decide_eq_true_eq] at *; omega
theorem Zpe(rs:List Int)(n:Nat)(x y:Fin n)(h1:ltOf (ZfV rs n) x y=false)(h2:ltOf (ZfV rs n) y x=false):x=y:=by
 rw[ltF] at*
 unfold VZ at*
 simp only[Bool.not_eq_false',decide_eq_true_eq] at*
 apply Fin.ext
 omega
def Zdu(n:Nat):Array (Fin n):=(List.finRange n).toArray
theorem ZbE(n:Nat):(Zdu n).size=n:=by simp[Zdu]
theorem ZkK(n:Nat):(Zdu n).toList.map Fin.val=List.range n:=by
 unfold Zdu;refine List.ext_getElem (by simp) fun i h1 h2=> ?_
 simp
theorem Zhb(rs:List Int)(n:Nat)(hn:rs.length=n):((Zdu n).toList.mergeSort fun x y=> !ltOf (ZfV rs n) y x).map Fin.val=QT rs:=by
 unfold QT;rw[List.map_mergeSort (s:=VZ rs),ZkK,hn];intro a _ b _;rw[ltF];simp
def JT(l:List Nat):Array Value:=(l.map fun k=>Value.int .i64 (k:Nat)).toArray
theorem ZiZ(n:Nat)[Inhabited (Fin n)]{w:World}{p:Nat}{T:TypeId}(hB:BlkB w p (JT (List.range n)) T):Holds (Zha n) w p 0 (Zdu n):=by
 intro j hj;rw[ZbE] at hj;refine⟨?_,hB.frozen _⟩;rw[Nat.zero_add];refine hB.cell j ?_
 have h1:(Zdu n)[j]! =⟨j,hj⟩:=by
  rw[getElem!_pos _ j (by rw[ZbE];exact hj)];simp[Zdu]
 rw[h1];simp[JT,Zha,hj]
theorem ZeJ(n:Nat)[Inhabited (Fin n)](cur:Array Value)(l:List (Fin n))(hc:cur.size=n)(hl:l.length=n):putCells (Zha n) 0 l.toArray cur=JT (l.map Fin.val):=by
 apply Array.ext_getElem?
 intro k;simp only[putCells,Array.getElem?_mapIdx,JT,List.getElem?_toArray,List.getElem?_map,List.map_map]
 by_cases hk:k<n
 ·have h1:cur[k]?=some cur[k]:=Array.getElem?_eq_getElem (by omega);rw[h1];have h2:l[k]?=some l[k]:=List.getElem?_eq_getElem (by omega);simp only[Option.map_some,Nat.zero_le,true_and,Nat.zero_add,Nat.sub_zero,h2];rw[if_pos (by simp;omega)];have h3:l.toArray[k]! =l[k]:=by rw[getElem!_pos _ k (by simp;omega)];simp
  rw[h3];rfl
 ·rw[Array.getElem?_eq_none (by omega),List.getElem?_eq_none (by omega)];rfl
theorem ZaA(n:Nat)[Inhabited (Fin n)]{w:World}{g m:Nat}{os:Array Obj}(d:Array (Fin n)):w.grownBy (sortWorld (Zha n) w g 0 m d os) (some g):=by
 refine⟨rfl,rfl,rfl,by simp[sortWorld],fun k hk hne=> ?_⟩;unfold sortWorld;rw[heap_grow_old _ _ (by simpa using hk)];have:g≠k:=fun e=>hne (by rw[e])
 simp[putRow,mapBlock,Sort.ahead,Array.getElem?_modify,this]
theorem Zi0(n:Nat)[Inhabited (Fin n)]{w:World}{p m:Nat}{T:TypeId}{cur:Array Value}{os:Array Obj}(l:List (Fin n))(hB:BlkB w p cur T)(hc:cur.size=n)(hl:l.length=n):BlkB (sortWorld (Zha n) w p 0 m l.toArray os) p (JT (l.map Fin.val)) T:=by
 unfold BlkB sortWorld;have hg:=hB.lt;rw[heap_grow_old _ _ (by simpa using hg)];unfold BlkB at hB;simp only[putRow,mapBlock,Sort.ahead,Array.getElem?_modify,hB,onCells,if_pos,Option.map_some];rw[ZeJ n cur l hc hl]
theorem ZbF{w w':World}{B p:Nat}(h:w.grownBy w' (some p))(hB:B<=p)(hs:B<=w.1.size):Below B w w':=
 ⟨h.os,h.tape,h.output,h.size,fun k hk=>h.block k (by omega) (fun e=>by injection e with e;omega)⟩
theorem ZkL{P:Program}{ρ:Ren}(L:SlLaysF.n6 P ρ)(g:Nat)(cb:Array Value)(rs:List Int)(n p cap:Nat)(W:World)(T:TypeId)(hn:rs.length=n)(h0:0<n)(h1:n<4611686018427387904)
 (eg:∀args w,(callFunc g args).run P w=.ok (.enter g args) w) (hB:BlkB W p (JT (List.range n)) T)
 (hcmp:∀W',W.grownBy W' (some p)->∀x y:Nat,x<n->y<n->Calls P g (#[.int .i64 x,.int .i64 y]++cb) W' fun e w'=>e=.returned (.int .i64 (ZiY rs x y))/\Below W'.1.size W' w'):
 Calls P (ρ.f 6) #[.slice (some ⟨p,0,none⟩) n cap,.func (.func g) #[] cb] W fun e w'=>e=.returned (.tuple #[])/\W.grownBy w' (some p)/\BlkB w' p (JT (QT rs)) T:=by
 obtain⟨m,rfl⟩:∃m,n=m+1:=⟨n-1,by omega⟩
 have hsz:=ZbE (m+1)
 have h:=Any.slices_SortFunc_total L (Zha (m+1)) (fun _=>rfl) (ZfV rs (m+1)) (Zpd rs (m+1)) g cb p 0 cap (Zdu (m+1)) W eg
  (fun q os dk _ x y=>by
    have h2:=ZfU (hcmp (sortWorld (Zha (m+1)) W p 0 q dk os) (ZaA (m+1) dk) x.val y.val x.isLt y.isLt) (fun w' hw=>by cases hw.1);refine h2.mono fun e w' h3=>⟨h3.1.1,Zdt h3.1.2 h3.2⟩)
  (ZiZ (m+1) hB) hB.lt (by rw[hsz];exact h1) (Zpe rs (m+1))
 rw[hsz] at h;refine h.mono ?_;rintro e w' ⟨he,q,os,rfl⟩;refine⟨he,ZaA (m+1) _,?_⟩;have h3:=Zi0 (m+1) (w:=W) (p:=p) (m:=q) (T:=T) (os:=os) ((Zdu (m+1)).toList.mergeSort fun x y=> !ltOf (ZfV rs (m+1)) y x) hB (by simp[JT]) (by simp[hsz]);rw[Zhb rs (m+1) hn] at h3;exact h3
section
variable {w W W':World} {p i:Nat} {cs ds:Array Value} {T:TypeId} {bs:List (Nat×Array Value×TypeId)}
theorem Kp.grown(h:Kp w bs W)(hg:W.grownBy W' (some p))(hb:bs[i]?=some (p,cs,T))(hd:BlkB W' p ds T):Kp w (bs.set i (p,ds,T)) W':=by
 have hm:(bs.set i (p,ds,T)).map (·.1)=bs.map (·.1):=by
  refine List.ext_getElem? fun k=> ?_
  rw[List.getElem?_map,List.getElem?_map,List.getElem?_set]
  split
  ·rename_i e
   subst e;rw[hb]
   split
   ·rfl
   ·rename_i e2;exact absurd (List.getElem?_eq_some_iff.1 hb).1 e2
  ·rfl
 refine⟨h.pow,h.bl.trans (ZbF hg (h.old i hb) h.bl.size),?_,by rw[hm];exact h.ord,?_⟩
 ·intro b hx
  rcases List.mem_or_eq_of_mem_set hx with hx|rfl
  ·exact h.own b hx
  ·exact h.old i hb
 ·intro b hx;obtain⟨k,hk⟩:=List.getElem?_of_mem hx
  rw[List.getElem?_set] at hk
  split at hk
  ·split at hk
   ·injection hk with hk;subst hk;exact hd
   ·cases hk
  ·rename_i hik
   obtain⟨q,es,U⟩:=b
   have hq:=h.at_ k hk;have hne:=h.ne k i hk hb (fun e=>hik e.symm);exact(hg.block q hq.lt (fun e=>hne (by injection e))).trans hq
end
end
section
open Go.RowKit Go.Shelf
theorem ZdY(b:UInt8):VY b=true↔(97<=(b.toNat:Int)/\(b.toNat:Int)<=122)\/(48<=(b.toNat:Int)/\(b.toNat:Int)<=57)\/(b.toNat:Int)=95:=by
 unfold VY;simp only[Bool.or_eq_true,Bool.and_eq_true,decide_eq_true_eq,beq_iff_eq,UInt8.le_iff_toNat_le,<-UInt8.toNat_inj];simp
 omega
theorem ZkW(s:List UInt8)(w:World):∃cap W1,(convert 9 153 (.string ⟨s.toArray⟩)).run Tryz.prog w=.ok (.slice (some ⟨w.1.size,0,none⟩) s.length cap) W1/\Below w.1.size w W1/\W1.1.size=w.1.size+1/\∀(j:Nat) (b:UInt8),s[j]?=some b->W1.cell? ⟨w.1.size,j,none⟩=some (.int .u8 (b.toNat:Int)):=by
 have h:=run_bytes_of_string (P:=Tryz.prog) w 9 153 5 ⟨s.toArray⟩ Tryz.underlying9 Tryz.underlying153 Tryz.underlying5;have hsz:(⟨s.toArray⟩:ByteArray).size=s.length:=Qm s;rw[hsz] at h;generalize grownCap w s.length 0 5=cap at h;refine⟨_,_,h,((Below.refl _ w).drew).alloc (Nat.le_refl _) _,by simp,fun j b hj=> ?_⟩;have hb:=heap_alloc_new w.drew (.cells (bytesRow ⟨s.toArray⟩ cap) 5 ((bytesRow ⟨s.toArray⟩ cap).size,(bytesRow ⟨s.toArray⟩ cap).size+1));refine(cell_of_row _ w.1.size j _ _ _ hb).trans ?_;have hlt:=(List.getElem?_eq_some_iff.1 hj).1;unfold bytesRow;rw[Array.getElem?_append_left (by simpa using hlt),Array.getElem?_map];simp[hj]
theorem YF{s:List UInt8}{k:Nat}{b:UInt8}(h:s[k]?=some b)(ha:(s.take k).all VY=true)(hb:VY b=true):(s.take (k+1)).all VY=true:=by
 obtain⟨hk,rfl⟩:=List.getElem?_eq_some_iff.1 h
 rw[List.take_succ_eq_append_getElem hk,List.all_append,ha];simp[hb]
theorem ZdZ{s:List UInt8}{k:Nat}{b:UInt8}(h:s[k]?=some b)(hb:¬VY b=true):Qp s=false:=by
 unfold Qp
 have:s.all VY=false:=by
  rw[List.all_eq_false];exact⟨b,List.mem_of_getElem? h,hb⟩
 rw[this,Bool.and_false]
theorem Jg(s:List UInt8):XB 138 #[S s] (.bool (Qp s)):=by
 intro w hp;have H:=jq (Kp.start hp);have hsz:=Qm s;clear hp
 rcases Nat.eq_zero_or_pos s.length with h0|h0
 ·obtain rfl:s=[]:=List.eq_nil_of_length_eq_zero h0;have HB:=jq (show Qp []=false by rfl);rw[HB.out];clear h0 hsz;unfold S;go_enter Tryz.func138,Tryz.ntmps138
  go_wp2_with fail
  first|go_ret|skip
  exact⟨rfl,H.out.bl⟩
 by_cases h1:16<s.length
 ·have HB:=jq (show Qp s=false by unfold Qp;rw[decide_eq_false (show ¬s.length<=16 by omega)];simp);rw[HB.out];have HSZ:=jq hsz;have hs1:((s.length:Int)==0)=false:=beq_false_of_ne (by omega);have hs2:(16:Int)<(s.length:Int):=by omega
  clear hsz h0 h1;unfold S;go_enter Tryz.func138,Tryz.ntmps138
  go_wp2_with fail
  first|go_ret|skip
  exact⟨rfl,H.out.bl⟩
 obtain⟨cap,W1,hcv,hbW,hszW,hcell⟩:=ZkW s w
 have HCE:=jq hcell;have H1:=jq (H.out.here hbW)
 have HOK:=jq (show s.all VY=true->Qp s=true by
  intro ha;unfold Qp;rw[ha,decide_eq_true (show s.length<=16 by omega),decide_eq_true (show s≠[] by intro e;rw[e] at h0;simp at h0)];rfl)
 have hs1:((s.length:Int)==0)=false:=beq_false_of_ne (by omega);have hs2:¬(16:Int)<(s.length:Int):=by omega
 obtain⟨n,hn⟩:∃n,s.length=n:=⟨_,rfl⟩
 rw[hn] at hcv;have hn16:n<=16:=by omega
 have HN:=jq hn;clear hcell hbW hszW hsz h0 h1 hn H;unfold S;go_enter Tryz.func138,Tryz.ntmps138
 go_wp2_with fail
 go_loop [16] (fun i=>∃k:Nat,k<=n/\i=.int .i64 k/\Hid ((s.take k).all VY=true)) (fun i=>n-(intOf i).toNat)
 case atStart=>exact⟨0,Nat.zero_le _,rfl,by show _=_;simp⟩
 case round=>
  obtain⟨k,hk,rfl,HA⟩:=hrel
  by_cases hlt:k<n
  ·obtain⟨b,hb⟩:∃b,s[k]?=some b:=⟨_,List.getElem?_eq_getElem (by have:=HN.out;omega)⟩
   have d0:=HCE.out k b hb;have HB:=jq hb;have HIF:=jq (ZdY b);clear hb
   by_cases h95:(b.toNat:Int)=95
   ·have hx:((b.toNat:Int) !=95)=false:=by simp[h95]
    go_wp2
    all_goals
     go_round
     case rel=>exact⟨k+1,by omega,by go_num,YF HB.out HA.out (by rw[HIF.out];omega)⟩
     case measure=>simp[intOf];omega
   ·have hx:((b.toNat:Int) !=95)=true:=by simp[h95]
    go_wp2
    all_goals first
     |(go_round
       case rel=>exact⟨k+1,by omega,by go_num,YF HB.out HA.out (by rw[HIF.out];omega)⟩
       case measure=>simp[intOf];omega)
     |(go_ret
       exact⟨Qe (ZdZ HB.out (by rw[HIF.out];omega)).symm,H1.out.bl⟩)
  ·go_wp2
   go_ret
   exact⟨Qe (HOK.out (by have:=HA.out;rwa [List.take_of_length_le (by have:=HN.out;omega)] at this)).symm,H1.out.bl⟩
theorem ZcO(d:Int)(_h1: -9223372036854775808<=d)(_h2:d<=9223372036854775807):XB 139 #[.int .i64 d] (.bool (VL d)):=by
 intro w hp;have HB:=jq (show VL d=(decide (-25567<=d)&&decide (d<=84005)) from rfl);rw[HB.out];have H:=jq (Kp.start hp);clear hp HB
 cases e1:decide (-25567<=d)<;>cases e2:decide (d<=84005)
 all_goals
  go_enter Tryz.func139,Tryz.ntmps139
  go_wp2_with fail
  first|go_ret|skip
  exact⟨rfl,H.out.bl⟩
end
section
open Go.RowKit Go.Shelf
theorem Yw(s:List UInt8)(w:World)(hl:s.length<=maxLen):Calls Tryz.prog 153 #[S s] w fun e w'=>e=.returned (.bool (Qp s))/\w=w':=by
 have HNB:=jq (show Qp s=(decide (s≠[])&&decide (s.length<=16)&&s.all VY) from rfl);have hsz:=Qm s;have hm:s.length<=9223372036854775807:=hl;clear hl;unfold S;go_enter Tryz.func153,Tryz.ntmps153
 go_wp2
 go_loop [3,4] (fun i _=>∃k:Nat,k<=s.length/\i=.int .i64 k/\Hid ((s.take k).all VY=true)) (fun i _=>s.length-(intOf i).toNat)
 case atStart=>exact⟨0,Nat.zero_le _,rfl,by show _=_;simp⟩
 case round=>
  obtain⟨k,hk,rfl,HA⟩:=hrel
  by_cases hlt:k<s.length
  ·obtain⟨b,hb⟩:∃b,s[k]?=some b:=⟨_,List.getElem?_eq_getElem hlt⟩
   have hks:k<(⟨s.toArray⟩:ByteArray).size:=by rw[Qm];exact hlt
   have hbk:(⟨s.toArray⟩:ByteArray)[k]=b:=YX hb hks;have HB:=jq hb;clear hb;have HIF:=jq (ZdY b);clear HNB
   by_cases h95:(b.toNat:Int)=95
   ·have hx:((b.toNat:Int) !=95)=false:=by simp[h95]
    go_wp2
    all_goals
     go_round
     case rel=>exact⟨k+1,by omega,by go_num,YF HB.out HA.out (by rw[HIF.out];omega)⟩
     case measure=>simp[intOf];omega
   ·have hx:((b.toNat:Int) !=95)=true:=by simp[h95]
    go_wp2
    all_goals first
     |(go_round
       case rel=>exact⟨k+1,by omega,by go_num,YF HB.out HA.out (by rw[HIF.out];omega)⟩
       case measure=>simp[intOf];omega)
     |(go_ret
       exact⟨Qe (ZdZ HB.out (by rw[HIF.out];omega)).symm,rfl⟩)
  ·have HAL:=jq (show s.all VY=true by have:=HA.out;rwa [List.take_of_length_le (by omega)] at this);rw[HAL.out] at HNB
   by_cases h1:1<=s.length
   ·have HNE:=jq (show s≠[] by intro e;rw[e] at h1;simp at h1);rw[decide_eq_true HNE.out] at HNB
    by_cases h2:s.length<=16
    ·rw[decide_eq_true h2] at HNB
     go_wp2
     go_ret
     exact⟨Qe (by rw[HNB.out,decide_eq_true (show((s.length:Nat):Int)<=16 by omega)];rfl),rfl⟩
    ·rw[decide_eq_false h2] at HNB
     go_wp2
     go_ret
     exact⟨Qe (by rw[HNB.out,decide_eq_false (show ¬((s.length:Nat):Int)<=16 by omega)];rfl),rfl⟩
   ·have HNE:=jq (show ¬s≠[] by
     rw[Classical.not_not];exact List.eq_nil_of_length_eq_zero (by omega))
    rw[decide_eq_false HNE.out] at HNB
    go_wp2
    go_ret
    exact⟨Qe (by rw[HNB.out];rfl),rfl⟩
end
section
open Go.RowKit Go.Shelf
theorem Zig(l:List UInt8)(a b:Nat):(⟨l.toArray⟩:ByteArray).extract a b=⟨((l.take b).drop a).toArray⟩:=by
 apply ByteArray.ext
 rw[ByteArray.data_extract,List.extract_toArray,List.extract_eq_take_drop,List.drop_take]
theorem Zjf(s:List UInt8)(hs:s.length<=1000000000):XB 219 #[S s,.string ⟨#[47]⟩] (.tuple #[S (YL s),S (Jd s),.bool (decide (47∈s))]):=by
 intro w hp;have H:=jq (Kp.start hp);have HIX:=jq (fun W=>Tryz.stringslite_Index_one ⟨s.toArray⟩ 47 W);rw[show(⟨s.toArray⟩:ByteArray).data.toList=s from rfl] at HIX;obtain⟨i1,i2⟩:=ZdJ s
 have hsz:=Qm s;clear hp
 by_cases h:47∈s
 ·obtain⟨a1,a2,a3,a4⟩:=i1 h
  rw[a1] at HIX;rw[decide_eq_true h];have HN:=jq (show(⟨s.toArray⟩:ByteArray).extract 0 (YL s).length=⟨(YL s).toArray⟩ by rw[Zig,a3];rfl);have HR:=jq (show(⟨s.toArray⟩:ByteArray).extract ((YL s).length+1) s.length=⟨(Jd s).toArray⟩ by rw[Zig,List.take_length,a4]);generalize hk:(YL s).length=k at*;have hb1:k<(⟨s.toArray⟩:ByteArray).size:=by rw[hsz];exact a2
  have hb2:(⟨s.toArray⟩:ByteArray).size<=1000000000:=by rw[hsz];exact hs
  clear i1 i2 h a1 a2 a3 a4 hk hsz hs;unfold S;go_enter Tryz.func219,Tryz.ntmps219
  go_wp2_with fail
  refine(HIX.out _).mono ?_;rintro e w1 ⟨rfl,rfl⟩;go_upto_region 3 with (fail)
  go_region
  all_goals
   go_wp2_with fail
   go_ret3
   rw[HN.out,HR.out];exact⟨rfl,H.out.bl.drew⟩
 ·obtain⟨a1,a2,a3⟩:=i2 h
  rw[a1] at HIX;rw[decide_eq_false h,a2,a3];clear i1 i2 h a1 a2 a3 hsz hs;unfold S;go_enter Tryz.func219,Tryz.ntmps219
  go_wp2_with fail
  refine(HIX.out _).mono ?_;rintro e w1 ⟨rfl,rfl⟩;go_wp2_with fail
  first|go_ret3|skip
  exact⟨rfl,H.out.bl⟩
theorem Zf5(s:List UInt8)(hs:s.length<=1000000000):XB 177 #[S s,.string ⟨#[47]⟩] (.tuple #[S (YL s),S (Jd s),.bool (decide (47∈s))]):=by
 intro w hp;have H:=jq (Kp.start hp);have HC:=jq (Zjf s hs);clear hp hs;generalize YL s=a at*;generalize Jd s=b at*;generalize decide (47∈s)=bb at*;unfold S at*
 go_enter Tryz.func177,Tryz.ntmps177
 go_wp2_with fail
 refine(HC.out _ H.out.pw).mono ?_;rintro e w1 ⟨rfl,hb⟩;go_wp2_with fail
 first|go_ret3|skip
 exact⟨rfl,(H.out.here hb).bl⟩
theorem Zk8(s:List UInt8)(hs:s.length<=1000000):XB 137 #[S s] (.bool (idB s)):=by
 intro w hp;have H:=jq (Kp.start hp);have HC:=jq (Zf5 s (by omega));have HB:=jq (Zet s);rw[HB.out,ZdI]
 have hrl:(Jd s).length<=s.length:=by
  unfold Jd;rw[List.length_drop];have:=(List.dropWhile_suffix (fun x:UInt8=>x !=47) (l:=s)).length_le
  omega
 have HNM:=jq (Jg (YL s));generalize YL s=a at*;generalize Jd s=r at*;generalize decide (47∈s)=bb at*;generalize Qp a=nb at*;have hrs:=Qm r;clear HB
 rcases ha:Lib.atoiAll r with v|_|_
 ·have HA:=jq (fun W=>(Tryz.strconv_Atoi_ok ⟨r.toArray⟩ (by rw[hrs];omega) v ha W).mono (R':=fun(e:Ending) (w':World)=>e=Ending.returned (.tuple #[.int .i64 v,.nilIface])/\Below W.1.size W w') (by
   rintro e w' ⟨he,rfl|⟨t,rfl⟩⟩
   ·exact⟨he,Below.refl _ _⟩
   ·exact⟨he,Lib.bytesWorld_below _ _ _⟩))
  obtain⟨v1,v2⟩:=Lib.atoiAll_bounds ha
  have HI:=jq (fun W (hp:Env W)=>Zf4 v v1 v2 W hp.pow);clear ha hs hrl hrs hp;simp only;generalize Lib.itoa v=iv at*
  by_cases h1:1<=v
  ·by_cases h2:v<=9999
   ·rw[decide_eq_true h1,decide_eq_true h2,Bool.true_and,Bool.true_and]
    cases h3:(iv==r)
    ·unfold S at*
     go_enter Tryz.func137,Tryz.ntmps137
     go_wp2_with fail
     refine(HC.out _ H.out.pw).mono ?_;rintro e w1 ⟨rfl,hb⟩;replace H:=jq (H.out.here hb);clear hb;go_wp2_with fail
     refine(HA.out _).mono ?_;rintro e w2 ⟨rfl,hb⟩;replace H:=jq (H.out.here hb);clear hb;go_wp2_with fail
     refine(HI.out _ H.out.pw).mono ?_;rintro e w3 ⟨rfl,hb⟩;replace H:=jq (H.out.here hb);clear hb;go_wp2_with fail
     first|go_ret|skip
     exact⟨rfl,H.out.bl⟩
    ·unfold S at*
     go_enter Tryz.func137,Tryz.ntmps137
     go_wp2_with fail
     refine(HC.out _ H.out.pw).mono ?_;rintro e w1 ⟨rfl,hb⟩;replace H:=jq (H.out.here hb);clear hb;go_wp2_with fail
     refine(HA.out _).mono ?_;rintro e w2 ⟨rfl,hb⟩;replace H:=jq (H.out.here hb);clear hb;go_wp2_with fail
     refine(HI.out _ H.out.pw).mono ?_;rintro e w3 ⟨rfl,hb⟩;replace H:=jq (H.out.here hb);clear hb;go_wp2_with fail
     refine(HNM.out _ H.out.pw).mono ?_;rintro e w4 ⟨rfl,hb⟩;go_wp2_with fail
     first|go_ret|skip
     exact⟨rfl,(H.out.here hb).bl⟩
   ·rw[decide_eq_true h1,decide_eq_false h2,Bool.true_and,Bool.false_and,Bool.false_and];unfold S at*
    go_enter Tryz.func137,Tryz.ntmps137
    go_wp2_with fail
    refine(HC.out _ H.out.pw).mono ?_;rintro e w1 ⟨rfl,hb⟩;replace H:=jq (H.out.here hb);clear hb;go_wp2_with fail
    refine(HA.out _).mono ?_;rintro e w2 ⟨rfl,hb⟩;go_wp2_with fail
    first|go_ret|skip
    exact⟨rfl,(H.out.here hb).bl⟩
  ·rw[decide_eq_false h1,Bool.false_and,Bool.false_and];unfold S at*
   go_enter Tryz.func137,Tryz.ntmps137
   go_wp2_with fail
   refine(HC.out _ H.out.pw).mono ?_;rintro e w1 ⟨rfl,hb⟩;replace H:=jq (H.out.here hb);clear hb;go_wp2_with fail
   refine(HA.out _).mono ?_;rintro e w2 ⟨rfl,hb⟩;go_wp2_with fail
   first|go_ret|skip
   exact⟨rfl,(H.out.here hb).bl⟩
 ·have HA:=jq (fun W (hp:Env W)=>let⟨tp,p,hv⟩:=hp.syn;(Tryz.strconv_Atoi_syntax_var ⟨r.toArray⟩ (by rw[hrs];omega) ha tp p W hv).mono (R':=fun(e:Ending) (w':World)=>∃(N:Nat) (tt:TypeId),e=Ending.returned (.tuple #[.int .i64 0,.iface tt (.pointer (some ⟨N,0,none⟩))])/\Below W.1.size W w') (by
   rintro e w' ⟨N,he,_,_,hb⟩;exact⟨N,_,he,hb⟩))
  clear ha hs hrl hrs hp;rw[Bool.false_and];unfold S at*
  go_enter Tryz.func137,Tryz.ntmps137
  go_wp2_with fail
  refine(HC.out _ H.out.pw).mono ?_;rintro e w1 ⟨rfl,hb⟩;replace H:=jq (H.out.here hb);clear hb;go_wp2_with fail
  refine(HA.out _ H.out.pw).mono ?_;rintro e w2 ⟨N,tt,rfl,hb⟩;go_wp2_with fail
  first|go_ret|skip
  exact⟨rfl,(H.out.here hb).bl⟩
 ·have HA:=jq (fun W (hp:Env W)=>let⟨tp,p,hv⟩:=hp.rng;(Tryz.strconv_Atoi_range_var ⟨r.toArray⟩ (by rw[hrs];omega) ha tp p W hv).mono (R':=fun(e:Ending) (w':World)=>∃(z:Int) (N:Nat) (tt:TypeId),e=Ending.returned (.tuple #[.int .i64 z,.iface tt (.pointer (some ⟨N,0,none⟩))])/\Below W.1.size W w') (by
   rintro e w' ⟨N,he,_,_,hb⟩;exact⟨_,N,_,he,hb⟩))
  clear ha hs hrl hrs hp;rw[Bool.false_and];unfold S at*
  go_enter Tryz.func137,Tryz.ntmps137
  go_wp2_with fail
  refine(HC.out _ H.out.pw).mono ?_;rintro e w1 ⟨rfl,hb⟩;replace H:=jq (H.out.here hb);clear hb;go_wp2_with fail
  refine(HA.out _ H.out.pw).mono ?_;rintro e w2 ⟨z,N,tt,rfl,hb⟩;go_wp2_with fail
  first|go_ret|skip
  exact⟨rfl,(H.out.here hb).bl⟩
end
section
open Go.RowKit Go.Shelf
def Zls:List UInt8:=[65,66,67,68,69,70,71,72,73,74,75,76,77,78,79,80,81,82,83,84,85,86,87,88,89,90]
theorem Zbh{p:UInt8->Bool}:∀l:List UInt8,l.dropWhile p=[]↔l.all p=true
 |[]=>by simp
 |b::l=>by
  rw[List.dropWhile_cons,List.all_cons]
  cases h:p b
  ·simp
  ·simp[Zbh l]
theorem Zlt(l cs:List UInt8):(Lib.trimS l cs==[])=l.all (cs.contains ·):=by
 rw[Bool.eq_iff_iff,beq_iff_eq];unfold Lib.trimS Lib.trimLeftS Lib.trimRightS;rw[Zbh,List.all_reverse]
 constructor
 ·intro h
  by_cases e:l.reverse.dropWhile (cs.contains ·)=[]
  ·rw[Zbh,List.all_reverse] at e;exact e
  ·exfalso
   obtain⟨b,t,e2⟩:=List.exists_cons_of_ne_nil e
   rw[e2,List.all_cons] at h;have h1:cs.contains b=true:=by simp only[Bool.and_eq_true] at h;exact h.1
   have h2:=List.head_dropWhile_not (fun x=>cs.contains x) (l:=l.reverse) e;simp only[e2,List.head_cons] at h2;rw[h1] at h2
   cases h2
 ·intro h;rw[<-List.all_reverse,<-Zbh] at h;rw[h];rfl
theorem Znb(b:UInt8):Zls.contains b=(decide (65<=b.toNat)&&decide (b.toNat<=90)):=by
 have h:∀n,n<256->Zls.contains (UInt8.ofNat n)=(decide (65<=n)&&decide (n<=90)):=by decide+kernel
 have:=h b.toNat b.toNat_lt
 rwa [UInt8.ofNat_toNat] at this
theorem Zjr(s:List UInt8):YM s=(s.length==3&&(Lib.trimS s Zls==[])):=by
 unfold YM;rw[Zlt]
 congr 2
 funext b
 exact(Znb b).symm
theorem Zc6(s:List UInt8)(hs:s.length<=1000000):XB 187 #[S s] (.bool (YM s)):=by
 intro w hp;have H:=jq (Kp.start hp);have HT:=jq (fun W=>Any.strings_Trim_laid Tryz.lays160 (by kernel_rfl) ⟨s.toArray⟩ ⟨#[65,66,67,68,69,70,71,72,73,74,75,76,77,78,79,80,81,82,83,84,85,86,87,88,89,90]⟩ W (by rw[Qm];omega) (by decide) (ascii_of_all (by decide)));rw[show(⟨s.toArray⟩:ByteArray).data.toList=s from rfl,show(⟨#[65,66,67,68,69,70,71,72,73,74,75,76,77,78,79,80,81,82,83,84,85,86,87,88,89,90]⟩:ByteArray).data.toList=Zls from rfl] at HT;have hsz:=Qm s;rw[Zjr];clear hp
 by_cases h3:s.length=3
 ·have e3:((s.length:Int)==3)=true:=by rw[h3];rfl
  have e3':(s.length==3)=true:=by rw[h3];rfl
  rw[e3',Bool.true_and];clear h3 e3';generalize Lib.trimS s Zls=t at*
  cases ht:(t==[])
  all_goals
   unfold S;go_enter Tryz.func187,Tryz.ntmps187
   go_wp2_with fail
   refine(HT.out _).mono ?_;rintro e w1 ⟨rfl,hb⟩;replace H:=jq (H.out.here hb);clear hb;go_wp2_with fail
   first|go_ret|skip
   exact⟨rfl,H.out.bl⟩
 ·have e3:((s.length:Int)==3)=false:=beq_false_of_ne (by omega);have e3':(s.length==3)=false:=beq_false_of_ne h3;rw[e3',Bool.false_and];clear h3 e3' HT;unfold S;go_enter Tryz.func187,Tryz.ntmps187
  go_wp2_with fail
  first|go_ret|skip
  exact⟨rfl,H.out.bl⟩
theorem Zjs(s:List UInt8)(hs:s.length<=1000000):XB 224 #[S s] (.bool (idB s)):=by
 intro w hp;have H:=jq (Kp.start hp);have HC:=jq (Zf5 s (by omega));have HB:=jq (Zet s);rw[HB.out,ZdI]
 have hrl:(Jd s).length<=s.length:=by
  unfold Jd;rw[List.length_drop];have:=(List.dropWhile_suffix (fun x:UInt8=>x !=47) (l:=s)).length_le
  omega
 have HNM:=jq (Jg (YL s));generalize YL s=a at*;generalize Jd s=r at*;generalize decide (47∈s)=bb at*;generalize Qp a=nb at*;have hrs:=Qm r;clear HB
 rcases ha:Lib.atoiAll r with v|_|_
 ·have HA:=jq (fun W=>(Tryz.strconv_Atoi_ok ⟨r.toArray⟩ (by rw[hrs];omega) v ha W).mono (R':=fun(e:Ending) (w':World)=>e=Ending.returned (.tuple #[.int .i64 v,.nilIface])/\Below W.1.size W w') (by
   rintro e w' ⟨he,rfl|⟨t,rfl⟩⟩
   ·exact⟨he,Below.refl _ _⟩
   ·exact⟨he,Lib.bytesWorld_below _ _ _⟩))
  obtain⟨v1,v2⟩:=Lib.atoiAll_bounds ha
  have HI:=jq (fun W (hp:Env W)=>Zf4 v v1 v2 W hp.pow);clear ha hs hrl hrs hp;simp only;generalize Lib.itoa v=iv at*
  cases nb with
  |false=>
   rw[Bool.and_false];clear HI;unfold S at*
   go_enter Tryz.func224,Tryz.ntmps224
   go_wp2_with fail
   refine(HC.out _ H.out.pw).mono ?_;rintro e w1 ⟨rfl,hb⟩;replace H:=jq (H.out.here hb);clear hb;go_wp2_with fail
   refine(HA.out _).mono ?_;rintro e w2 ⟨rfl,hb⟩;replace H:=jq (H.out.here hb);clear hb;go_wp2_with fail
   refine(HNM.out _ H.out.pw).mono ?_;rintro e w3 ⟨rfl,hb⟩;replace H:=jq (H.out.here hb);clear hb;go_wp2_with fail
   first|go_ret|skip
   exact⟨rfl,H.out.bl⟩
  |true=>
   rw[Bool.and_true]
   by_cases h1:1<=v
   ·by_cases h2:v<=9999
    ·rw[decide_eq_true h1,decide_eq_true h2,Bool.true_and,Bool.true_and]
     cases h3:(iv==r)
     all_goals
      unfold S at*
      go_enter Tryz.func224,Tryz.ntmps224
      go_wp2_with fail
      refine(HC.out _ H.out.pw).mono ?_;rintro e w1 ⟨rfl,hb⟩;replace H:=jq (H.out.here hb);clear hb;go_wp2_with fail
      refine(HA.out _).mono ?_;rintro e w2 ⟨rfl,hb⟩;replace H:=jq (H.out.here hb);clear hb;go_wp2_with fail
      refine(HNM.out _ H.out.pw).mono ?_;rintro e w3 ⟨rfl,hb⟩;replace H:=jq (H.out.here hb);clear hb;go_wp2_with fail
      refine(HI.out _ H.out.pw).mono ?_;rintro e w4 ⟨rfl,hb⟩;replace H:=jq (H.out.here hb);clear hb;go_wp2_with fail
      first|go_ret|skip
      exact⟨rfl,H.out.bl⟩
    ·rw[decide_eq_true h1,decide_eq_false h2,Bool.true_and,Bool.false_and];unfold S at*
     go_enter Tryz.func224,Tryz.ntmps224
     go_wp2_with fail
     refine(HC.out _ H.out.pw).mono ?_;rintro e w1 ⟨rfl,hb⟩;replace H:=jq (H.out.here hb);clear hb;go_wp2_with fail
     refine(HA.out _).mono ?_;rintro e w2 ⟨rfl,hb⟩;replace H:=jq (H.out.here hb);clear hb;go_wp2_with fail
     refine(HNM.out _ H.out.pw).mono ?_;rintro e w3 ⟨rfl,hb⟩;replace H:=jq (H.out.here hb);clear hb;go_wp2_with fail
     first|go_ret|skip
     exact⟨rfl,H.out.bl⟩
   ·rw[decide_eq_false h1,Bool.false_and];unfold S at*
    go_enter Tryz.func224,Tryz.ntmps224
    go_wp2_with fail
    refine(HC.out _ H.out.pw).mono ?_;rintro e w1 ⟨rfl,hb⟩;replace H:=jq (H.out.here hb);clear hb;go_wp2_with fail
    refine(HA.out _).mono ?_;rintro e w2 ⟨rfl,hb⟩;replace H:=jq (H.out.here hb);clear hb;go_wp2_with fail
    refine(HNM.out _ H.out.pw).mono ?_;rintro e w3 ⟨rfl,hb⟩;replace H:=jq (H.out.here hb);clear hb;go_wp2_with fail
    first|go_ret|skip
    exact⟨rfl,H.out.bl⟩
 ·have HA:=jq (fun W (hp:Env W)=>let⟨tp,p,hv⟩:=hp.syn;(Tryz.strconv_Atoi_syntax_var ⟨r.toArray⟩ (by rw[hrs];omega) ha tp p W hv).mono (R':=fun(e:Ending) (w':World)=>∃(N:Nat) (tt:TypeId),e=Ending.returned (.tuple #[.int .i64 0,.iface tt (.pointer (some ⟨N,0,none⟩))])/\Below W.1.size W w') (by
   rintro e w' ⟨N,he,_,_,hb⟩;exact⟨N,_,he,hb⟩))
  clear ha hs hrl hrs hp;rw[Bool.false_and]
  cases nb
  all_goals
   unfold S at*
   go_enter Tryz.func224,Tryz.ntmps224
   go_wp2_with fail
   refine(HC.out _ H.out.pw).mono ?_;rintro e w1 ⟨rfl,hb⟩;replace H:=jq (H.out.here hb);clear hb;go_wp2_with fail
   refine(HA.out _ H.out.pw).mono ?_;rintro e w2 ⟨N,tt,rfl,hb⟩;replace H:=jq (H.out.here hb);clear hb;go_wp2_with fail
   refine(HNM.out _ H.out.pw).mono ?_;rintro e w3 ⟨rfl,hb⟩;replace H:=jq (H.out.here hb);clear hb;go_wp2_with fail
   first|go_ret|skip
   exact⟨rfl,H.out.bl⟩
 ·have HA:=jq (fun W (hp:Env W)=>let⟨tp,p,hv⟩:=hp.rng;(Tryz.strconv_Atoi_range_var ⟨r.toArray⟩ (by rw[hrs];omega) ha tp p W hv).mono (R':=fun(e:Ending) (w':World)=>∃(z:Int) (N:Nat) (tt:TypeId),e=Ending.returned (.tuple #[.int .i64 z,.iface tt (.pointer (some ⟨N,0,none⟩))])/\Below W.1.size W w') (by
   rintro e w' ⟨N,he,_,_,hb⟩;exact⟨_,N,_,he,hb⟩))
  clear ha hs hrl hrs hp;rw[Bool.false_and]
  cases nb
  all_goals
   unfold S at*
   go_enter Tryz.func224,Tryz.ntmps224
   go_wp2_with fail
   refine(HC.out _ H.out.pw).mono ?_;rintro e w1 ⟨rfl,hb⟩;replace H:=jq (H.out.here hb);clear hb;go_wp2_with fail
   refine(HA.out _ H.out.pw).mono ?_;rintro e w2 ⟨z,N,tt,rfl,hb⟩;replace H:=jq (H.out.here hb);clear hb;go_wp2_with fail
   refine(HNM.out _ H.out.pw).mono ?_;rintro e w3 ⟨rfl,hb⟩;replace H:=jq (H.out.here hb);clear hb;go_wp2_with fail
   first|go_ret|skip
   exact⟨rfl,H.out.bl⟩
end
end Go.Proofs.YtkddgeclncafoaaGreatDoor
