/- Nm, Lt1, Fa1. -/
import Derived.Test.YtokjnjdbnabchaaGreatDoorQGEo40
import Derived.Test.YtokjnjdbnabchaaGreatDoorQGEo32
import Derived.Laws.IdiomStrings
import Derived.OwnWalk
set_option maxRecDepth 20000
set_option maxHeartbeats 1000000
namespace Go.Proofs.YtokjnjdbnabchaaGreatDoor
open Go.Lib renaming hid→jq
open Go.RowKit Go.Shelf
section
theorem Zem(b:UInt8):YU b=true↔(97<=(b.toNat:Int)/\(b.toNat:Int)<=122)\/(48<=(b.toNat:Int)/\(b.toNat:Int)<=57)\/(b.toNat:Int)=95:=by
 unfold YU;simp only[Bool.or_eq_true,Bool.and_eq_true,decide_eq_true_eq,beq_iff_eq,UInt8.le_iff_toNat_le,<-UInt8.toNat_inj];simp
 omega
theorem ZfD(s:List UInt8)(w:World):∃cap W1,(convert 9 145 (.string ⟨s.toArray⟩)).run Tryz.prog w=.ok (.slice (some ⟨w.1.size,0,none⟩) s.length cap) W1/\Below w.1.size w W1/\W1.1.size=w.1.size+1/\∀(j:Nat) (b:UInt8),s[j]?=some b->W1.cell? ⟨w.1.size,j,none⟩=some (.int .u8 (b.toNat:Int)):=by
 have h:=run_bytes_of_string (P:=Tryz.prog) w 9 145 5 ⟨s.toArray⟩ Tryz.underlying9 Tryz.underlying145 Tryz.underlying5;have hsz:(⟨s.toArray⟩:ByteArray).size=s.length:=Qw s;rw[hsz] at h;generalize grownCap w s.length 0 5=cap at h;refine⟨_,_,h,((Below.refl _ w).drew).alloc (Nat.le_refl _) _,by simp,fun j b hj=> ?_⟩;have hb:=heap_alloc_new w.drew (.cells (bytesRow ⟨s.toArray⟩ cap) 5 ((bytesRow ⟨s.toArray⟩ cap).size,(bytesRow ⟨s.toArray⟩ cap).size+1));refine(cell_of_row _ w.1.size j _ _ _ hb).trans ?_;have hlt:=(List.getElem?_eq_some_iff.1 hj).1;unfold bytesRow;rw[Array.getElem?_append_left (by simpa using hlt),Array.getElem?_map];simp[hj]
theorem YV{s:List UInt8}{k:Nat}{b:UInt8}(h:s[k]?=some b)(ha:(s.take k).all YU=true)(hb:YU b=true):(s.take (k+1)).all YU=true:=by
 obtain⟨hk,rfl⟩:=List.getElem?_eq_some_iff.1 h
 rw[List.take_succ_eq_append_getElem hk,List.all_append,ha];simp[hb]
theorem Zen{s:List UInt8}{k:Nat}{b:UInt8}(h:s[k]?=some b)(hb:¬YU b=true):Qu s=false:=by
 unfold Qu
 have:s.all YU=false:=by
  rw[List.all_eq_false];exact⟨b,List.mem_of_getElem? h,hb⟩
 rw[this,Bool.and_false]
theorem Vp(s:List UInt8):YS 146 #[S s] (.bool (Qu s)):=by
 intro w hp;have H:=jq (Kp.start hp);have hsz:=Qw s;clear hp
 rcases Nat.eq_zero_or_pos s.length with h0|h0
 ·obtain rfl:s=[]:=List.eq_nil_of_length_eq_zero h0;have HB:=jq (show Qu []=false by rfl);rw[HB.out];clear h0 hsz;unfold S;go_enter Tryz.func146,Tryz.ntmps146
  go_wp2_with fail
  first|go_ret|skip
  exact⟨rfl,H.out.bl⟩
 by_cases h1:16<s.length
 ·have HB:=jq (show Qu s=false by unfold Qu;rw[decide_eq_false (show ¬s.length<=16 by omega)];simp);rw[HB.out];have HSZ:=jq hsz;have hs1:((s.length:Int)==0)=false:=beq_false_of_ne (by omega);have hs2:(16:Int)<(s.length:Int):=by omega
  clear hsz h0 h1;unfold S;go_enter Tryz.func146,Tryz.ntmps146
  go_wp2_with fail
  first|go_ret|skip
  exact⟨rfl,H.out.bl⟩
 obtain⟨cap,W1,hcv,hbW,hszW,hcell⟩:=ZfD s w
 have HCE:=jq hcell;have H1:=jq (H.out.here hbW)
 have HOK:=jq (show s.all YU=true->Qu s=true by
  intro ha;unfold Qu;rw[ha,decide_eq_true (show s.length<=16 by omega),decide_eq_true (show s≠[] by intro e;rw[e] at h0;simp at h0)];rfl)
 have hs1:((s.length:Int)==0)=false:=beq_false_of_ne (by omega);have hs2:¬(16:Int)<(s.length:Int):=by omega
 obtain⟨n,hn⟩:∃n,s.length=n:=⟨_,rfl⟩
 rw[hn] at hcv;have hn16:n<=16:=by omega
 have HN:=jq hn;clear hcell hbW hszW hsz h0 h1 hn H;unfold S;go_enter Tryz.func146,Tryz.ntmps146
 go_wp2_with fail
 go_loop [16] (fun i=>∃k:Nat,k<=n/\i=.int .i64 k/\Hid ((s.take k).all YU=true)) (fun i=>n-(intOf i).toNat)
 case atStart=>exact⟨0,Nat.zero_le _,rfl,by show _=_;simp⟩
 case round=>
  obtain⟨k,hk,rfl,HA⟩:=hrel
  by_cases hlt:k<n
  ·obtain⟨b,hb⟩:∃b,s[k]?=some b:=⟨_,List.getElem?_eq_getElem (by have:=HN.out;omega)⟩
   have d0:=HCE.out k b hb;have HB:=jq hb;have HIF:=jq (Zem b);clear hb
   by_cases h95:(b.toNat:Int)=95
   ·have hx:((b.toNat:Int) !=95)=false:=by simp[h95]
    go_wp2
    all_goals
     go_round
     case rel=>exact⟨k+1,by omega,by go_num,YV HB.out HA.out (by rw[HIF.out];omega)⟩
     case measure=>simp[intOf];omega
   ·have hx:((b.toNat:Int) !=95)=true:=by simp[h95]
    go_wp2
    all_goals first
     |(go_round
       case rel=>exact⟨k+1,by omega,by go_num,YV HB.out HA.out (by rw[HIF.out];omega)⟩
       case measure=>simp[intOf];omega)
     |(go_ret
       exact⟨Ql (Zen HB.out (by rw[HIF.out];omega)).symm,H1.out.bl⟩)
  ·go_wp2
   go_ret
   exact⟨Ql (HOK.out (by have:=HA.out;rwa [List.take_of_length_le (by have:=HN.out;omega)] at this)).symm,H1.out.bl⟩
end
section
theorem ZdI(l:List UInt8)(a b:Nat):(⟨l.toArray⟩:ByteArray).extract a b=⟨((l.take b).drop a).toArray⟩:=by
 apply ByteArray.ext
 rw[ByteArray.data_extract,List.extract_toArray,List.extract_eq_take_drop,List.drop_take]
theorem Zeo(s:List UInt8)(hs:s.length<=1000000000):YS 310 #[S s,.string ⟨#[47]⟩] (.tuple #[S (XG s),S (Va s),.bool (decide (47∈s))]):=by
 intro w hp;have H:=jq (Kp.start hp);have HIX:=jq (fun W=>Tryz.stringslite_Index_one ⟨s.toArray⟩ 47 W);rw[show(⟨s.toArray⟩:ByteArray).data.toList=s from rfl] at HIX;obtain⟨i1,i2⟩:=Zaw s
 have hsz:=Qw s;clear hp
 by_cases h:47∈s
 ·obtain⟨a1,a2,a3,a4⟩:=i1 h
  rw[a1] at HIX;rw[decide_eq_true h];have HN:=jq (show(⟨s.toArray⟩:ByteArray).extract 0 (XG s).length=⟨(XG s).toArray⟩ by rw[ZdI,a3];rfl);have HR:=jq (show(⟨s.toArray⟩:ByteArray).extract ((XG s).length+1) s.length=⟨(Va s).toArray⟩ by rw[ZdI,List.take_length,a4]);generalize hk:(XG s).length=k at*;have hb1:k<(⟨s.toArray⟩:ByteArray).size:=by rw[hsz];exact a2
  have hb2:(⟨s.toArray⟩:ByteArray).size<=1000000000:=by rw[hsz];exact hs
  clear i1 i2 h a1 a2 a3 a4 hk hsz hs;unfold S;go_enter Tryz.func310,Tryz.ntmps310
  go_wp2_with fail
  refine(HIX.out _).mono ?_;rintro e w1 ⟨rfl,rfl⟩;go_upto_region 3 with (fail)
  go_region
  all_goals
   go_wp2_with fail
   go_ret3
   rw[HN.out,HR.out];exact⟨rfl,H.out.bl.drew⟩
 ·obtain⟨a1,a2,a3⟩:=i2 h
  rw[a1] at HIX;rw[decide_eq_false h,a2,a3];clear i1 i2 h a1 a2 a3 hsz hs;unfold S;go_enter Tryz.func310,Tryz.ntmps310
  go_wp2_with fail
  refine(HIX.out _).mono ?_;rintro e w1 ⟨rfl,rfl⟩;go_wp2_with fail
  first|go_ret3|skip
  exact⟨rfl,H.out.bl⟩
theorem ZfF(s:List UInt8)(hs:s.length<=1000000000):YS 299 #[S s,.string ⟨#[47]⟩] (.tuple #[S (XG s),S (Va s),.bool (decide (47∈s))]):=by
 intro w hp;have H:=jq (Kp.start hp);have HC:=jq (Zeo s hs);clear hp hs;generalize XG s=a at*;generalize Va s=b at*;generalize decide (47∈s)=bb at*;unfold S at*
 go_enter Tryz.func299,Tryz.ntmps299
 go_wp2_with fail
 refine(HC.out _ H.out.pw).mono ?_;rintro e w1 ⟨rfl,hb⟩;go_wp2_with fail
 first|go_ret3|skip
 exact⟨rfl,(H.out.here hb).bl⟩
end
section
def ZfG:List UInt8:=[65,66,67,68,69,70,71,72,73,74,75,76,77,78,79,80,81,82,83,84,85,86,87,88,89,90]
theorem Vq{p:UInt8->Bool}:∀l:List UInt8,l.dropWhile p=[]↔l.all p=true
 |[]=>by simp
 |b::l=>by
  rw[List.dropWhile_cons,List.all_cons]
  cases h:p b
  ·simp
  ·simp[Vq l]
theorem ZfH(l cs:List UInt8):(Lib.trimS l cs==[])=l.all (cs.contains ·):=by
 rw[Bool.eq_iff_iff,beq_iff_eq];unfold Lib.trimS Lib.trimLeftS Lib.trimRightS;rw[Vq,List.all_reverse]
 constructor
 ·intro h
  by_cases e:l.reverse.dropWhile (cs.contains ·)=[]
  ·rw[Vq,List.all_reverse] at e;exact e
  ·exfalso
   obtain⟨b,t,e2⟩:=List.exists_cons_of_ne_nil e
   rw[e2,List.all_cons] at h;have h1:cs.contains b=true:=by simp only[Bool.and_eq_true] at h;exact h.1
   have h2:=List.head_dropWhile_not (fun x=>cs.contains x) (l:=l.reverse) e;simp only[e2,List.head_cons] at h2;rw[h1] at h2
   cases h2
 ·intro h;rw[<-List.all_reverse,<-Vq] at h;rw[h];rfl
theorem Zhd(b:UInt8):ZfG.contains b=(decide (65<=b.toNat)&&decide (b.toNat<=90)):=by
 have h:∀n,n<256->ZfG.contains (UInt8.ofNat n)=(decide (65<=n)&&decide (n<=90)):=by decide+kernel
 have:=h b.toNat b.toNat_lt
 rwa [UInt8.ofNat_toNat] at this
theorem Zep(s:List UInt8):Qp s=(s.length==3&&(Lib.trimS s ZfG==[])):=by
 unfold Qp;rw[ZfH]
 congr 2
 funext b
 exact(Zhd b).symm
theorem JP(s:List UInt8)(hs:s.length<=1000000):YS 207 #[S s] (.bool (Qp s)):=by
 intro w hp;have H:=jq (Kp.start hp);have HT:=jq (fun W=>Any.strings_Trim_laid Tryz.lays160 (by kernel_rfl) ⟨s.toArray⟩ ⟨#[65,66,67,68,69,70,71,72,73,74,75,76,77,78,79,80,81,82,83,84,85,86,87,88,89,90]⟩ W (by rw[Qw];omega) (by decide) (ascii_of_all (by decide)));rw[show(⟨s.toArray⟩:ByteArray).data.toList=s from rfl,show(⟨#[65,66,67,68,69,70,71,72,73,74,75,76,77,78,79,80,81,82,83,84,85,86,87,88,89,90]⟩:ByteArray).data.toList=ZfG from rfl] at HT;have hsz:=Qw s;rw[Zep];clear hp
 by_cases h3:s.length=3
 ·have e3:((s.length:Int)==3)=true:=by rw[h3];rfl
  have e3':(s.length==3)=true:=by rw[h3];rfl
  rw[e3',Bool.true_and];clear h3 e3';generalize Lib.trimS s ZfG=t at*
  cases ht:(t==[])
  all_goals
   unfold S;go_enter Tryz.func207,Tryz.ntmps207
   go_wp2_with fail
   refine(HT.out _).mono ?_;rintro e w1 ⟨rfl,hb⟩;replace H:=jq (H.out.here hb);clear hb;go_wp2_with fail
   first|go_ret|skip
   exact⟨rfl,H.out.bl⟩
 ·have e3:((s.length:Int)==3)=false:=beq_false_of_ne (by omega);have e3':(s.length==3)=false:=beq_false_of_ne h3;rw[e3',Bool.false_and];clear h3 e3' HT;unfold S;go_enter Tryz.func207,Tryz.ntmps207
  go_wp2_with fail
  first|go_ret|skip
  exact⟨rfl,H.out.bl⟩
theorem Zeq(s:List UInt8)(hs:s.length<=1000000):YS 269 #[S s] (.bool (idB s)):=by
 intro w hp;have H:=jq (Kp.start hp);have HC:=jq (ZfF s (by omega));have HB:=jq (Zh1 s);rw[HB.out,Zeb]
 have hrl:(Va s).length<=s.length:=by
  unfold Va;rw[List.length_drop];have:=(List.dropWhile_suffix (fun x:UInt8=>x !=47) (l:=s)).length_le
  omega
 have HNM:=jq (Vp (XG s));generalize XG s=a at*;generalize Va s=r at*;generalize decide (47∈s)=bb at*;generalize Qu a=nb at*;have hrs:=Qw r;clear HB
 rcases ha:Lib.atoiAll r with v|_|_
 ·have HA:=jq (fun W=>(Tryz.strconv_Atoi_ok ⟨r.toArray⟩ (by rw[hrs];omega) v ha W).mono (R':=fun(e:Ending) (w':World)=>e=Ending.returned (.tuple #[.int .i64 v,.nilIface])/\Below W.1.size W w') (by
   rintro e w' ⟨he,rfl|⟨t,rfl⟩⟩
   ·exact⟨he,Below.refl _ _⟩
   ·exact⟨he,Lib.bytesWorld_below _ _ _⟩))
  obtain⟨v1,v2⟩:=Lib.atoiAll_bounds ha
  have HI:=jq (fun W (hp:Env W)=>ZfE v v1 v2 W hp.pow);clear ha hs hrl hrs hp;simp only;generalize Lib.itoa v=iv at*
  cases nb with
  |false=>
   rw[Bool.and_false];clear HI;unfold S at*
   go_enter Tryz.func269,Tryz.ntmps269
   go_wp2_with fail
   refine(HC.out _ H.out.pw).mono ?_;rintro e w1 ⟨rfl,hb⟩;replace H:=jq (H.out.here hb);clear hb;go_wp2_with fail
   refine(HA.out _).mono ?_;rintro e w2 ⟨rfl,hb⟩;replace H:=jq (H.out.here hb);clear hb;go_wp2_with fail
   refine(HNM.out _ H.out.pw).mono ?_;rintro e w3 ⟨rfl,hb⟩;replace H:=jq (H.out.here hb);clear hb;go_wp2_with fail
   first|go_ret|skip
   exact⟨rfl,H.out.bl⟩
  |true=>
   rw[Bool.and_true]
   by_cases h1:1<=v
   ·by_cases h2:v<=9999
    ·rw[decide_eq_true h1,decide_eq_true h2,Bool.true_and,Bool.true_and]
     cases h3:(iv==r)
     all_goals
      unfold S at*
      go_enter Tryz.func269,Tryz.ntmps269
      go_wp2_with fail
      refine(HC.out _ H.out.pw).mono ?_;rintro e w1 ⟨rfl,hb⟩;replace H:=jq (H.out.here hb);clear hb;go_wp2_with fail
      refine(HA.out _).mono ?_;rintro e w2 ⟨rfl,hb⟩;replace H:=jq (H.out.here hb);clear hb;go_wp2_with fail
      refine(HNM.out _ H.out.pw).mono ?_;rintro e w3 ⟨rfl,hb⟩;replace H:=jq (H.out.here hb);clear hb;go_wp2_with fail
      refine(HI.out _ H.out.pw).mono ?_;rintro e w4 ⟨rfl,hb⟩;replace H:=jq (H.out.here hb);clear hb;go_wp2_with fail
      first|go_ret|skip
      exact⟨rfl,H.out.bl⟩
    ·rw[decide_eq_true h1,decide_eq_false h2,Bool.true_and,Bool.false_and];unfold S at*
     go_enter Tryz.func269,Tryz.ntmps269
     go_wp2_with fail
     refine(HC.out _ H.out.pw).mono ?_;rintro e w1 ⟨rfl,hb⟩;replace H:=jq (H.out.here hb);clear hb;go_wp2_with fail
     refine(HA.out _).mono ?_;rintro e w2 ⟨rfl,hb⟩;replace H:=jq (H.out.here hb);clear hb;go_wp2_with fail
     refine(HNM.out _ H.out.pw).mono ?_;rintro e w3 ⟨rfl,hb⟩;replace H:=jq (H.out.here hb);clear hb;go_wp2_with fail
     first|go_ret|skip
     exact⟨rfl,H.out.bl⟩
   ·rw[decide_eq_false h1,Bool.false_and];unfold S at*
    go_enter Tryz.func269,Tryz.ntmps269
    go_wp2_with fail
    refine(HC.out _ H.out.pw).mono ?_;rintro e w1 ⟨rfl,hb⟩;replace H:=jq (H.out.here hb);clear hb;go_wp2_with fail
    refine(HA.out _).mono ?_;rintro e w2 ⟨rfl,hb⟩;replace H:=jq (H.out.here hb);clear hb;go_wp2_with fail
    refine(HNM.out _ H.out.pw).mono ?_;rintro e w3 ⟨rfl,hb⟩;replace H:=jq (H.out.here hb);clear hb;go_wp2_with fail
    first|go_ret|skip
    exact⟨rfl,H.out.bl⟩
 ·have HA:=jq (fun W (hp:Env W)=>let⟨tp,p,hv⟩:=hp.syn;(Tryz.strconv_Atoi_syntax_var ⟨r.toArray⟩ (by rw[hrs];omega) ha tp p W hv).mono (R':=fun(e:Ending) (w':World)=>∃(N:Nat) (tt:TypeId),e=Ending.returned (.tuple #[.int .i64 0,.iface tt (.pointer (some ⟨N,0,none⟩))])/\Below W.1.size W w') (by
   rintro e w' ⟨N,he,_,_,hb⟩;exact⟨N,_,he,hb⟩))
  clear ha hs hrl hrs hp;rw[Bool.false_and]
  cases nb
  all_goals
   unfold S at*
   go_enter Tryz.func269,Tryz.ntmps269
   go_wp2_with fail
   refine(HC.out _ H.out.pw).mono ?_;rintro e w1 ⟨rfl,hb⟩;replace H:=jq (H.out.here hb);clear hb;go_wp2_with fail
   refine(HA.out _ H.out.pw).mono ?_;rintro e w2 ⟨N,tt,rfl,hb⟩;replace H:=jq (H.out.here hb);clear hb;go_wp2_with fail
   refine(HNM.out _ H.out.pw).mono ?_;rintro e w3 ⟨rfl,hb⟩;replace H:=jq (H.out.here hb);clear hb;go_wp2_with fail
   first|go_ret|skip
   exact⟨rfl,H.out.bl⟩
 ·have HA:=jq (fun W (hp:Env W)=>let⟨tp,p,hv⟩:=hp.rng;(Tryz.strconv_Atoi_range_var ⟨r.toArray⟩ (by rw[hrs];omega) ha tp p W hv).mono (R':=fun(e:Ending) (w':World)=>∃(z:Int) (N:Nat) (tt:TypeId),e=Ending.returned (.tuple #[.int .i64 z,.iface tt (.pointer (some ⟨N,0,none⟩))])/\Below W.1.size W w') (by
   rintro e w' ⟨N,he,_,_,hb⟩;exact⟨_,N,_,he,hb⟩))
  clear ha hs hrl hrs hp;rw[Bool.false_and]
  cases nb
  all_goals
   unfold S at*
   go_enter Tryz.func269,Tryz.ntmps269
   go_wp2_with fail
   refine(HC.out _ H.out.pw).mono ?_;rintro e w1 ⟨rfl,hb⟩;replace H:=jq (H.out.here hb);clear hb;go_wp2_with fail
   refine(HA.out _ H.out.pw).mono ?_;rintro e w2 ⟨z,N,tt,rfl,hb⟩;replace H:=jq (H.out.here hb);clear hb;go_wp2_with fail
   refine(HNM.out _ H.out.pw).mono ?_;rintro e w3 ⟨rfl,hb⟩;replace H:=jq (H.out.here hb);clear hb;go_wp2_with fail
   first|go_ret|skip
   exact⟨rfl,H.out.bl⟩
end
end Go.Proofs.YtokjnjdbnabchaaGreatDoor
