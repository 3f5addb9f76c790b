/- NN. -/
import Derived.Test.YtokjnjdbnabchaaGreatDoorQGEp1
import Derived.Test.YtokjnjdbnabchaaGreatDoorShi
import Derived.Lib.AtoiErrMem
import Derived.OwnWalk
import Derived.Deep.DeepCutAuto
import Derived.Deep.RegionWith
import Derived.Lib.LazyBuf
set_option maxRecDepth 100000
set_option maxHeartbeats 4000000
namespace Go.Proofs.YtokjnjdbnabchaaGreatDoor
open Go.Lib renaming hid→jq
section
open Go.RowKit Go.Shelf Go.Sort
theorem Jt(u:Nat)(hu64:u<18446744073709551616)(w:World)(htab:Pow w):
 Calls Tryz.prog 167 #[.int .u64 u,.int .i64 10] w fun e w'=>e=.returned (.string ⟨(Lib.decDigits u).toArray⟩)/\Below w.1.size w w':=by
 by_cases hs:u<100
 ·have HS:=jq (fun W=>Tryz.internal_strconv_small u hs W);clear hu64;go_enter Tryz.func167,Tryz.ntmps167
  go_wp2_with (go_at_call 231;refine(HS.out _).mono ?_;rintro e w' ⟨rfl,rfl⟩)
  go_ret
  exact⟨rfl,Below.refl _ _⟩
 ·have hu1:1<=u:=by omega
  have hnd20:Lib.nDigits u<=20:=by have:=Lib.numDigits_eq u hu1 hu64;split at this<;>omega
  have hal:Tryz.prog.arrayLen 251=24:=by kernel_rfl
  have hsl:∀W,(Instr.sliceAt 251 (.pointer (some ⟨w.1.size,0,none⟩)) none (some (.int .i64 (Lib.nDigits u:Int))) none).run Tryz.prog W=.ok (.slice (some ⟨w.1.size,0,none⟩) (Lib.nDigits u) 24) W:=fun W=>by
   rw[run_sliceAt_array_h W 251 ⟨w.1.size,0,none⟩ (by simp[Program.arrayLen,Program.elem,Tryz.underlying251]) .i64 (Lib.nDigits u:Int) (by omega) (by rw[hal];omega)]
   go_simp
  have hH0:=Lib.holds_zero0 w 251 (Lib.nDigits u) (by omega);have hfmt:=Tryz.internal_strconv_formatBase10 w.1.size 0 24 u (Array.replicate (Lib.nDigits u) 0) (w.alloc (.cells Lib.zeros24 251)) hH0 (by rw[Array.size_replicate];exact Lib.lt_pow_nDigits u) hu64 (by rw[Array.size_replicate];omega);rw[Array.size_replicate] at hfmt;have HH0:=jq hH0;have HND:=jq (fun W (h:Pow W)=>Tryz.internal_strconv_numDigits u hu1 hu64 W h);have HP:=jq htab;clear hH0 hal;go_enter Tryz.func167,Tryz.ntmps167
  go_wp2_with (go_at_call 232;refine(HND.out _ (Lib.tabIs_alloc HP.out _)).mono ?_;rintro e w' ⟨rfl,rfl⟩)
  go_at_call 233
  refine hfmt.mono ?_;rintro e w' ⟨rfl,k,v',dk,rfl,hF⟩
  have hcv:(convert 145 9 (.slice (some ⟨w.1.size,0,none⟩) (Lib.nDigits u) 24)).run Tryz.prog ((putRow (fun(b:UInt8)=>Value.int .u8 (b.toNat:Int)) (w.alloc (.cells Lib.zeros24 251)) w.1.size 0 dk).drewN k)=.ok (.string ⟨(Lib.decDigits u).toArray⟩) ((putRow (fun(b:UInt8)=>Value.int .u8 (b.toNat:Int)) (w.alloc (.cells Lib.zeros24 251)) w.1.size 0 dk).drewN k):=by
   have h:=run_convert_bytes_back (P:=Tryz.prog) ((putRow (fun(b:UInt8)=>Value.int .u8 (b.toNat:Int)) (w.alloc (.cells Lib.zeros24 251)) w.1.size 0 dk).drewN k) 145 9 5 ⟨w.1.size,0,none⟩ 24 (Lib.decDigits u) Tryz.underlying145 Tryz.underlying5 Tryz.underlying9 (fun j hj=>by
    rw[Lib.row_is_numeral hF j hj,Lib.add_plain,World.cell?_drewN];exact cell?_putRow (fun(b:UInt8)=>Value.int .u8 (b.toNat:Int)) _ w.1.size 0 _ dk HH0.out (by rw[hF.size,Array.size_replicate]) j (by rw[hF.size];rw[Lib.decDigits_length] at hj;exact hj))
   rw[Lib.decDigits_length] at h;exact h
  go_wp2
  go_ret
  obtain⟨os,eo⟩:=Lib.fin_at w (.cells Lib.zeros24 251) dk k 0
  refine⟨rfl,?_⟩;rw[eo];exact Lib.below_grow _ w (Nat.le_refl _) k os
theorem YA(u:Nat)(hu64:u<18446744073709551616)(w:World)(htab:Pow w):
 Calls Tryz.prog 119 #[.int .u64 u,.int .i64 10] w fun e w'=>e=.returned (.string ⟨(Lib.decDigits u).toArray⟩)/\Below w.1.size w w':=by
 have H:=jq (Jt u hu64 w htab);clear hu64 htab;go_enter Tryz.func119,Tryz.ntmps119
 go_wp2_with (go_at_call 167;refine H.out.mono ?_;rintro e w' ⟨rfl,hb⟩)
 go_ret
 exact⟨rfl,hb⟩
end
section
open Go.RowKit Go.Shelf
theorem Zie(l:List UInt8):∀acc:Nat,l.all Qx=true->acc*10^l.length+10^l.length<=1000000000->Lib.parseUintM (2^64-1) acc l=.ok (acc*10^l.length+Qg l):=by
 induction l with
 |nil=>intro acc _ _;simp[Lib.parseUintM,Qg]
 |cons c l ih=>
  intro acc h hb;simp only[List.all_cons,Bool.and_eq_true] at h;have h2:=(Xj c).1 h.1;rw[List.length_cons,Nat.pow_succ] at hb;have hp:=Nat.pow_pos (n:=l.length) (show 0<10 by decide);have hacc:acc<=acc*(10^l.length*10):=Nat.le_mul_of_pos_right _ (by omega);unfold Lib.parseUintM;rw[if_pos h2,if_neg (by omega),if_neg (by omega),ih _ h.2]
  ·have e:Qg (c::l)=(c.toNat-48)*10^l.length+Qg l:=by
    unfold Qg;rw[List.foldl_cons,Vk];simp[Qg]
   rw[e,List.length_cons,Nat.pow_succ,Nat.add_mul,Nat.mul_assoc,Nat.mul_comm 10 (10^l.length),Nat.add_assoc]
  ·rw[Nat.add_mul,Nat.mul_assoc,Nat.mul_comm 10 (10^l.length)];have:(c.toNat-48)*10^l.length<=9*10^l.length:=Nat.mul_le_mul_right _ (by omega)
   omega
theorem ZaB(l:List UInt8)(hd:l.all Qx=true)(hn:l≠[])(h9:l.length<=9)(w:World):
 Calls Tryz.prog 115 #[.string ⟨l.toArray⟩,.int .i64 10,.int .i64 64] w fun e w'=>e=.returned (.tuple #[.int .u64 (Qg l),.nilIface])/\Below w.1.size w w':=by
 have hp:Lib.parseUintB 64 (⟨l.toArray⟩:ByteArray).data.toList=.ok (Qg l):=by
  rw[Ze4];unfold Lib.parseUintB;rw[if_neg hn,Zie l 0 hd]
  ·simp
  ·have:10^l.length<=10^9:=Nat.pow_le_pow_right (by omega) h9
   omega
 refine(Tryz.strconv_ParseUint_10_at64_ok ⟨l.toArray⟩ (by rw[Qw];omega) (Qg l) hp w).mono ?_;rintro e w' ⟨rfl,rfl|rfl⟩
 ·exact⟨rfl,Below.refl _ _⟩
 ·refine⟨rfl,?_⟩;exact Lib.bytesWorld_below w _ _
theorem Zcd(b:UInt8)(c:Nat):Lib.repeatL [b] c=List.replicate c b:=by
 induction c with
 |zero=>rfl
 |succ c ih=>rw[Lib.repeatL,ih,List.replicate_succ];rfl
theorem Zbn(c:Nat)(hc:c<=1000)(w:World):
 Calls Tryz.prog 120 #[.string ⟨#[48]⟩,.int .i64 c] w fun e w'=>e=.returned (.string ⟨(List.replicate c 48).toArray⟩)/\Below w.1.size w w':=by
 refine(Tryz.strings_Repeat ⟨#[48]⟩ c w (by omega) (by rw[show(⟨#[48]⟩:ByteArray).size=1 from rfl];omega)).mono ?_;rintro e w' ⟨rfl,hb⟩;refine⟨?_,hb⟩;rw[<-Zcd]
def Bld(w:World)(B b:Nat)(l:List UInt8):Prop:=Lib.IsBuilder 147 5 B b (Lib.byteCells l) w/\B<=w.1.size
theorem Bld.new(w:World){B:Nat}(hB:B<=w.1.size):Bld (w.alloc (.cells #[.pointer none,.slice none 0 0] 147)) B w.1.size []:=by
 refine⟨.inl ⟨hB,.slice none 0 0,heap_alloc_new w _,World.ownsRow_nil _ _ _ _,by simp[Value.ownBlock]⟩,by simp;omega⟩
theorem Bld.here{w w':World}{B b:Nat}{l:List UInt8}(h:Bld w B b l)(hb:Below w.1.size w w'):Bld w' B b l:=by
 obtain⟨h,hB⟩:=h
 have key:∀p,Lib.BuilderAt 147 5 B b p (Lib.byteCells l) w->Lib.BuilderAt 147 5 B b p (Lib.byteCells l) w':=by
  rintro p ⟨h1,v,h2,h3,h4⟩;refine⟨h1,v,(hb.block b (Array.getElem?_eq_some_iff.1 h2).1).trans h2,?_,h4⟩;refine World.ownsRow.kept h3 (row:=none) ⟨hb.os,hb.tape,hb.output,hb.size,fun i hi _=>hb.block i hi⟩ ?_
  cases hv:v.ownBlock with
  |none=>exact .inl rfl
  |some g=>exact .inr (by simp)
 exact⟨h.elim (fun x=>.inl (key _ x)) (fun x=>.inr (key _ x)),Nat.le_trans hB hb.size⟩
theorem Yb(B b:Nat)(l s:List UInt8)(w:World)(h:Bld w B b l)(hlen:l.length+s.length<=1000000000):
 Calls Tryz.prog 118 #[.pointer (some ⟨b,0,none⟩),.string ⟨s.toArray⟩] w fun e w'=>e=.returned (.tuple #[.int .i64 s.length,.nilIface])/\Bld w' B b (l++s)/\Below B w w':=by
 refine(Any.Builder_WriteString (ρ:=Tryz.lays105_ren) {Tryz.lays105 with} Tryz.Builder_Extra_105 B b (Lib.byteCells l) ⟨s.toArray⟩ w h.1 (by rw[Lib.byteCells_length,Qw];omega) h.2).mono ?_;rintro e w' ⟨rfl,h1,hb⟩;refine⟨by rw[Qw],⟨.inr ?_,Nat.le_trans h.2 hb.size⟩,hb⟩;have e:Lib.byteCells (l++s)=Lib.byteCells l++Lib.strCells ⟨s.toArray⟩:=by unfold Lib.byteCells Lib.strCells;rw[List.map_append]
 rw[e];exact h1
def Zc8:Go.Shelf.Ren:=⟨fun|167=>117|n=>Tryz.lays105_ren.f n,Tryz.lays105_ren.t,Tryz.lays105_ren.g⟩
theorem Zg9:Lays.n167 Tryz.prog Zc8:=
 {Tryz.lays105 with
  f167:=Tryz.func117.trans (congrArg some (by kernel_rfl))
  f240:=Tryz.func166.trans (congrArg some (by kernel_rfl))
  f276:=Tryz.func241.trans (congrArg some (by kernel_rfl))}
theorem Zfj:Builder.Extra Tryz.prog Zc8:={
 sizeBuilder:=by kernel_rfl
 liesBuilder:=by kernel_rfl
 t5:=Tryz.underlying5
 a5:=Tryz.isAgg5
 z5:=Tryz.sizeOf5
 v5:=Tryz.zeroValue5
 infoByte:=by kernel_rfl
 cellsByte:=by kernel_rfl
 sizeByte:=by kernel_rfl
 neB5:=by decide}
theorem JN(B b:Nat)(l:List UInt8)(c:UInt8)(w:World)(h:Bld w B b l)(hlen:l.length<=1000000000):
 Calls Tryz.prog 117 #[.pointer (some ⟨b,0,none⟩),.int .u8 c.toNat] w fun e w'=>e=.returned .nilIface/\Bld w' B b (l++[c])/\Below B w w':=by
 refine(Any.Builder_WriteByte (ρ:=Zc8) Zg9 Zfj B b (Lib.byteCells l) _ w h.1 (by rw[Lib.byteCells_length];omega) h.2).mono ?_;rintro e w' ⟨rfl,h1,hb⟩;refine⟨rfl,⟨.inr ?_,Nat.le_trans h.2 hb.size⟩,hb⟩;have e:Lib.byteCells (l++[c])=Lib.byteCells l++[.int .u8 c.toNat]:=by unfold Lib.byteCells;rw[List.map_append];rfl
 rw[e];exact h1
theorem Zce(B b:Nat)(l:List UInt8)(w:World)(h:Bld w B b l):
 Calls Tryz.prog 121 #[.pointer (some ⟨b,0,none⟩)] w fun e w'=>e=.returned (.string ⟨l.toArray⟩)/\Below B w w':=Tryz.Builder_String_any B b l w h.1 h.2
end
section
open Go.RowKit Go.Shelf
def U1(x:Nat):List Value:=[.int .u64 x]
theorem Qc(x:Nat):(U1 x).length=1:=rfl
theorem Zbo(x:Nat):∀u∈U1 x,u.oneCell'=true:=by simp[U1,Value.oneCell']
abbrev Gr(w:World)(B:Nat)(A:Option Addr)(n:Nat)(xs:List Nat):Prop:=Sl U1 1 w B A n xs
theorem Sl.grp{w:World}{B:Nat}{A:Option Addr}{n:Nat}{xs:List Nat}{i:Nat}(h:Gr w B A n xs)(hi:i<n):
 ∃b off x,A=some ⟨b,off,none⟩/\b<B/\xs[i]?=some x/\w.cell? ⟨b,off+i,none⟩=some (.int .u64 x):=by
 obtain⟨b,off,x,hA,hb,hx,hc⟩:=h.at_ hi
 exact⟨b,off,x,hA,hb,hx,by have:=hc 0 _ rfl;simpa using this⟩
theorem Jx:Yt Tryz.prog 104 138 1 8:=Vu Tryz.underlying104 (by kernel_rfl) (by decide) (by decide)
def Zha(A:Option Addr)(n c:Nat)(xs:List Nat)(w:World)(e:Ending)(w':World):Prop:=∃j,e=.returned (.slice A j c)/\j<=n/\gv (xs.take j)=gv xs/\Nz (xs.take j)/\w=w'
theorem Zhb{xs:List Nat}{j g:Nat}(h:xs[j]?=some g)(hg:g≠0):Nz (xs.take (j+1)):=by
 obtain⟨hj,rfl⟩:=List.getElem?_eq_some_iff.1 h
 unfold Nz;rw[List.take_succ_eq_append_getElem hj,List.getLast?_concat];intro h';injection h' with h'
 exact hg h'
theorem Yl(A:Option Addr)(n c:Nat)(xs:List Nat)(w:World)(hr:Gr w w.1.size A n xs)(hc:n<=c)(hn:n<=1000000000):
 Calls Tryz.prog 116 #[.slice A n c] w (Zha A n c xs w):=by
 have HXN:=jq hr.1;have HR:=jq hr;clear hr;go_enter Tryz.func116,Tryz.ntmps116
 go_wp2
 go_loop [0] (fun v=>∃j:Nat,v=.slice A j c/\j<=n/\Hid (gv (xs.take j)=gv xs)) (fun v=>match v with| .slice _ j _=>j|_=>0)
 case atStart=>exact⟨n,rfl,Nat.le_refl _,by show _=_;rw[List.take_of_length_le (by rw[<-HXN.out];omega)]⟩
 case round=>
  obtain⟨j,rfl,hj,HG⟩:=hrel
  by_cases h0:j=0
  ·subst h0
   go_wp2
   go_ret
   exact⟨0,rfl,Nat.zero_le _,HG.out,by unfold Nz;simp,rfl⟩
  ·obtain⟨j',rfl⟩:∃j',j=j'+1:=⟨j-1,by omega⟩
   obtain⟨b,off,x,rfl,hb,hx,d0⟩:=HR.out.grp (i:=j') (by omega)
   have HX:=jq hx;clear hx;have hj1:0<=(j':Int):=by omega
   have hj2:j'<=c:=by omega
   by_cases hx0:x=0
   ·have hxb:((x:Int)==0)=true:=by simp[hx0]
    have HG2:=jq (show gv (xs.take j')=gv xs by rw[<-HG.out,XQ xs j' x HX.out,hx0];simp);clear hx0
    go_wp2
    go_round
    case rel=>exact⟨j',rfl,by omega,HG2⟩
    case measure=>simp
   ·have hxb:((x:Int)==0)=false:=by simp;omega
    have HZ:=jq (Zhb HX.out hx0);clear hx0
    go_wp2
    go_ret
    exact⟨j'+1,rfl,hj,HG.out,HZ.out,rfl⟩
theorem Zc9(l:List UInt8)(a b:Nat):(⟨l.toArray⟩:ByteArray).extract a b=⟨((l.take b).drop a).toArray⟩:=by
 apply ByteArray.ext
 rw[ByteArray.data_extract,List.extract_toArray,List.extract_eq_take_drop,List.drop_take]
structure RInv (s:List UInt8) (j:Nat) (gs:List Nat):Prop where
 len:gs.length=j
 ok:Gs gs
 val:gv gs=Qg (s.drop (s.length-9*j))
 nz:s.length<=9*j->Nz gs
theorem RInv.zero(s:List UInt8):RInv s 0 []:=⟨rfl,Gs.nil,by simp[gv,Qg],fun _=>by unfold Nz;simp⟩
def XS(s:List UInt8)(j:Nat):List UInt8:=(s.take (s.length-9*j)).drop (s.length-9*(j+1))
theorem ZaP(s:List UInt8)(j:Nat)(h:9*j<s.length):(XS s j).length=min 9 (s.length-9*j):=by
 unfold XS;rw[List.length_drop,List.length_take];omega
theorem ZaQ{s:List UInt8}(hd:s.all Qx=true)(j:Nat):(XS s j).all Qx=true:=by
 unfold XS;rw[List.all_eq_true] at hd ⊢;exact fun x hx=>hd x (List.mem_of_mem_take (List.mem_of_mem_drop hx))
theorem RInv.step{s:List UInt8}{j:Nat}{gs:List Nat}(h:RInv s j gs)(hd:s.all Qx=true)(hz:∀b t,s=b::t->(b==48)=false)(hj:9*j<s.length):RInv s (j+1) (gs++[Qg (XS s j)]):=by
 have hl:=ZaP s j hj;have hv:=Vw (ZaQ hd j)
 have hlt:Qg (XS s j)<1000000000:=by
  rw[hl] at hv;have:10^min 9 (s.length-9*j)<=10^9:=Nat.pow_le_pow_right (by omega) (by omega)
  omega
 refine⟨by rw[List.length_append,h.len];rfl,h.ok.snoc hlt,?_,fun h9=> ?_⟩
 ·have key:∀k,k<=s.length-9*j->s.drop k=(s.take (s.length-9*j)).drop k++s.drop (s.length-9*j):=by
   intro k hk;have:=congrArg (List.drop k) (List.take_append_drop (s.length-9*j) s)
   rw[List.drop_append_of_le_length (by rw[List.length_take];omega)] at this;exact this.symm
  have e:s.drop (s.length-9*(j+1))=XS s j++s.drop (s.length-9*j):=key _ (by omega);rw[XO,e,Yw,h.val,h.len,List.length_drop,show s.length-(s.length-9*j)=9*j by omega,Nat.pow_mul,Nat.add_comm,Nat.mul_comm]
 ·have hne:Qg (XS s j)≠0:=by
   have e:XS s j=s.take (s.length-9*j):=by unfold XS;rw[show s.length-9*(j+1)=0 by omega];rfl
   rw[e]
   cases s with
   |nil=>simp at hj
   |cons b t=>
    obtain⟨k,hk⟩:∃k,(b::t).length-9*j=k+1:=⟨(b::t).length-9*j-1,by omega⟩
    rw[hk,List.take_succ_cons];refine YL ?_ (hz b t rfl);rw[List.all_eq_true] at hd ⊢;intro x hx;refine hd x ?_;rw[List.mem_cons] at hx ⊢;exact hx.imp id (fun h=>List.mem_of_mem_take h)
  unfold Nz;rw[List.getLast?_concat];intro h';injection h' with h'
  exact hne h'
def QW(a:List UInt8)(w:World)(e:Ending)(w':World):Prop:=
 ∃A n c xs,e=.returned (.agg #[.bool (Qf a).2,.slice A n c])/\Own U1 1 138 w' w.1.size (.slice A n c) xs/\Mag xs (Qg (Qf a).1)/\Below w.1.size w w'
theorem QF(a:List UInt8)(w:World)(ha:a.length<=1000000):Calls Tryz.prog 68 #[S a] w (QW a w):=by
 have hb0:Below w.1.size w (w.alloc (.cells #[.bool false,.slice none 0 0] 106)):=(Below.refl _ _).alloc (Nat.le_refl _) _;have HDG:=jq (JI a (w.alloc (.cells #[.bool false,.slice none 0 0] 106)) (by omega));obtain⟨hd,hz,_⟩:=Vx a
 have hl:=Vv a;have HP:=jq (show QW a w=fun e w'=>∃A n c xs,e=.returned (.agg #[.bool (Qf a).2,.slice A n c])/\Own U1 1 138 w' w.1.size (.slice A n c) xs/\Mag xs (Qg (Qf a).1)/\Below w.1.size w w' from rfl);generalize QW a w=post at*;generalize (Qf a).1=s at*;generalize (Qf a).2=neg at*;have hsl:s.length<=1000000:=by omega
 have HD:=jq hd;have HZ:=jq hz;have HB0:=jq hb0;clear hd hz hl hb0;unfold S at*
 go_enter Tryz.func68,Tryz.ntmps68
 go_wp2_with (go_at_call 110;refine HDG.out.mono ?_;rintro e w1 ⟨rfl,hb1⟩)
 have hb01:=HB0.out.trans (hb1.mono HB0.out.size);have hlt0:w.1.size<w1.1.size:=by have:=hb1.size;simp at this;omega
 have HC:=jq (show w1.cell? ⟨w.1.size,0,none⟩=some (.bool false)/\w1.cell? ⟨w.1.size,1,none⟩=some (.slice none 0 0)/\∀j,w1.frozen? ⟨w.1.size,j,none⟩=false from
  ⟨(hb1.cell (p:=⟨w.1.size,0,none⟩) (by simp)).trans (by simp[World.cell?_alloc_new]),(hb1.cell (p:=⟨w.1.size,1,none⟩) (by simp)).trans (by simp[World.cell?_alloc_new]),fun j=>(hb1.frozen (p:=⟨w.1.size,j,none⟩) (by simp)).trans (World.frozen?_alloc_new _ _ _ _)⟩)
 clear hb1
 go_loopw [5,6,7,8] (fun v i _ _ wr=>∃(j co:Nat) (ei:Int) (Ao:Option Addr) (gs:List Nat),j<=1000000/\i=.int .i64 ei/\Hid (ei=(s.length:Int)-9*j)/\v=.slice Ao j co/\Hid (Own U1 1 138 wr w1.1.size (.slice Ao j co) gs)/\Hid (RInv s j gs)/\Hid (9*j<=s.length+8)/\Below w1.1.size w1 wr) (fun _ i _ _ _=>(intOf i).toNat)
 case atStart=>exact⟨0,0,_,none,[],by omega,rfl,by show _=_;simp,rfl,Own.nil,RInv.zero s,by show _<=_;omega,Below.refl _ _⟩
 case round=>
  obtain⟨j,co,ei,Ao,gs,hj,rfl,HE,rfl,HO,HI,HJ,hb⟩:=hrel
  by_cases hlt:9*j<s.length
  ·have HR:=jq (HI.out.step HD.out HZ.out hlt);have HGL:=jq (ZaP s j hlt);have HGD:=jq (ZaQ HD.out j);obtain⟨en,hen⟩:∃en:Nat,ei=en:=⟨ei.toNat,by have:=HE.out;omega⟩
   subst hen;have hep:0<en:=by have:=HE.out;omega
   have hel:en<=s.length:=by have:=HE.out;omega
   obtain⟨lo,hlo⟩:∃lo:Nat,lo=en-9:=⟨_,rfl⟩
   have hmx:max 0 ((en:Int)-9)=(lo:Int):=by omega
   have hle:lo<=en:=by omega
   have HLO:=jq hlo;clear hlo
   have HEX:=jq (show(⟨s.toArray⟩:ByteArray).extract lo en=⟨(XS s j).toArray⟩ by
    rw[Zc9];unfold XS;have h1:=HE.out;have h2:=HLO.out
    rw[show en=s.length-9*j by omega,show lo=s.length-9*(j+1) by omega])
   have HPU:=jq (fun W=>ZaB (XS s j) HGD.out (fun h=>by have:=HGL.out;rw[h] at this;simp at this;omega) (by rw[HGL.out];omega) W);have HIL:=jq HI.out.len;generalize Qg (XS s j)=gval at*;go_wp2_with fail
   rw[HEX.out];refine(HPU.out _).mono ?_;rintro e w2 ⟨rfl,hb2⟩;have HO2:=jq (HO.out.below hb2);have hb12:=hb.trans (hb2.mono hb.size);obtain⟨hf1,_,_,hf⟩:=HO.out.facts
   have HF:=jq hf;clear hf hf1
   go_wp2_with (at_builtin;refine QJ _ rfl (.tmp 30) (.tmp 32) _ rfl Jx Qc Zbo (base:=w1.1.size) (.slice Ao j co) gs rfl (HO2.out.alloc _) _ _ 1 1 [gval] rfl (Sl.lit w2 #[.int .u64 gval] 138 [gval] rfl Qc) (by rw[HIL.out];omega) (by have:=hb12.size;simp;omega) ?_;intro A4 c4 w4 ho4 hg4 hat4
                rw[HIL.out] at ho4 ⊢)
   have hb4:Below w1.1.size w1 w4:=Xb (hb12.alloc hb12.size _) hg4 (by have:=hb12.size;simp;omega) (fun g' e=>by
    rcases HF.out with ⟨rfl,_⟩|⟨g,rfl,hg1,hg2⟩
    ·simp[Value.ownBlock] at e
    ·simp[Value.ownBlock] at e;omega)
   have HO4:=jq ho4;clear ho4 hg4 hat4
   go_roundw
   case rel=>exact⟨j+1,c4,(en:Int)-9,A4,gs++[gval],by have:=HE.out;omega,rfl,by show _=_;have:=HE.out;omega,rfl,HO4,HR,by show _<=_;omega,hb4⟩
   case measure=>simp[intOf];omega
  ·have hei:ei<=0:=by have:=HE.out;omega
   obtain⟨hc0,hc1,hcf⟩:=HC.out
   have c0:=(hb.cell (p:=⟨w.1.size,0,none⟩) hlt0).trans hc0;have c1:=(hb.cell (p:=⟨w.1.size,1,none⟩) hlt0).trans hc1;have f0:=(hb.frozen (p:=⟨w.1.size,0,none⟩) hlt0).trans (hcf 0);have f1:=(hb.frozen (p:=⟨w.1.size,1,none⟩) hlt0).trans (hcf 1);clear hc0 hc1 hcf
   go_wp2
   rw[HP.out]
   have hne:(Value.slice Ao j co).ownBlock≠some w.1.size:=by
    rcases HO.out.facts.2.2.2 with ⟨rfl,_⟩|⟨g,rfl,hg1,hg2⟩
    ·simp[Value.ownBlock]
    ·simp only[Value.ownBlock];intro h;injection h with h;omega
   refine bodyPost_ret (v:=.agg #[.bool neg,.slice Ao j co]) (by simp[results,Tryz.results68,go_sem,c0,c1]) rfl ⟨Ao,j,co,gs,rfl,?_,?_,?_⟩
   ·exact((HO.out.far hne _).far hne _).base_ (Nat.le_of_lt hlt0)
   ·exact⟨HI.out.ok,HI.out.nz (by omega),by rw[HI.out.val,show s.length-9*j=0 by omega];rfl⟩
   ·exact((hb01.trans (hb.mono hb01.size)).setCell (Nat.le_refl _) _).setCell (Nat.le_refl _) _
end
section
open Go.RowKit Go.Shelf
def uV(x:Nat):Value:=.int .u64 x
theorem ZdM(xs:List Nat):xs.flatMap U1=xs.map uV:=by
 induction xs with
 |nil=>rfl
 |cons a xs ih=>rw[List.flatMap_cons,ih];rfl
theorem ZiK:∃i,Tryz.prog.info? 138=some i/\i.zero=some (.int .u64 0)/\i.size=1/\i.bytes=8:=by
 have h:(Tryz.prog.info? 138).map (fun i=>(i.zero,i.size,i.bytes))=some (some (.int .u64 0),1,8):=by kernel_rfl
 cases hi:Tryz.prog.info? 138 with
 |none=>rw[hi] at h;cases h
 |some i=>
  rw[hi] at h;simp only[Option.map_some,Option.some.injEq,Prod.mk.injEq] at h;exact⟨i,rfl,h.1,h.2.1,h.2.2⟩
theorem Zif(k:Nat):(madeCells (Value.int .u64 0).cells k).toList=List.replicate k (Value.int .u64 0):=by
 apply List.ext_getElem?
 intro i;unfold madeCells
 by_cases hi:i<k
 ·simp[hi,Value.cells,Nat.mod_one]
 ·simp[hi]
theorem Zbp(w:World)(base n m:Nat)(L C:Int)(hL:L=(n:Int))(hC:C=(m:Int))(hnm:n<=m)(hm:m<=1000000000000)(hb:base<=w.1.size):
 ∃w',(Instr.makeSlice 104 (.int .i64 L) (.int .i64 C)).run Tryz.prog w=.ok (.slice (some ⟨w.1.size,0,none⟩) n m) w'/\Own U1 1 138 w' base (.slice (some ⟨w.1.size,0,none⟩) n m) (List.replicate n 0)/\Below w.1.size w w':=by
 subst hL;subst hC
 obtain⟨i,hi,hz,hs,hby⟩:=ZiK
 have hr:=run_make (P:=Tryz.prog) w 104 138 i (.int .u64 0) Tryz.underlying104 hi hz .i64 .i64 n m (by omega) (by omega) (by rw[hby];omega) (by omega);simp only[Int.toNat_natCast] at hr;refine⟨_,hr,?_,(Below.refl _ _).alloc (Nat.le_refl _) _⟩;refine⟨by rw[ZdM,List.length_map,Nat.mul_one],.inr ⟨w.1.size,m,_,by simp,hb,heap_alloc_new w _,by simpa using hnm,by unfold maxLen;omega,by rw[size_madeCells,hs],?_⟩⟩;rw[Zif,hs,ZdM,List.length_replicate,List.map_replicate,Nat.mul_one,Nat.mul_one,List.take_replicate,Nat.min_eq_left hnm];rfl
theorem Zbq{w:World}{ops:Array Oper}{rest:List Oper}{o:Oper}{a:Act}{Q:Exit->Act->World->Prop}(hgd:o.guard=none)(d s:Operand)
 (ho:o.op=.call {callee:=.builtin .copy,args:=#[d,s],argTypes:=#[104,104]}) (base g n dc:Nat) (A:Option Addr) (sc:Nat) (os xs:List Nat)
 (hd:a.eval d=.slice (some ⟨g,0,none⟩) n dc) (hs:a.eval s=.slice A n sc) (hown:Own U1 1 138 w base (.slice (some ⟨g,0,none⟩) n dc) os) (B:Nat) (hr:Gr w B A n xs)
 (h:∀w',Own U1 1 138 w' base (.slice (some ⟨g,0,none⟩) n dc) xs->Below base w w'->wpList Tryz.prog ops Q rest (a.put o.dst (.int .i64 n)) w'):wpList Tryz.prog ops Q (o::rest) a w:=by
 have hfl:=hown.facts.1;have hxl:=hr.1
 rcases hown.2 with ⟨h0,_⟩|⟨g',cap,cur,hv,hb,hg,hnc,hcm,hcs,ht⟩
 ·cases h0
 ·injection hv with a1 a2 a3;injection a1 with a1;injection a1 with a1;subst a1;subst a3
  have hcl:(xs.map uV).length=n:=by rw[List.length_map];exact hxl.symm
  refine wpList_copy_splice hgd d s 104 104 ho 138 Tryz.underlying104 (by kernel_rfl) (some ⟨g,0,none⟩) A n dc n sc hd hs g 0 cur.toList 138 (by simpa using hg) (xs.map uV) (by rw[hcl];simp) (fun hp=>⟨rfl,?_⟩) (by rw[hcl];simp;omega) (by intro v hv;rw[List.mem_map] at hv;obtain⟨x,_,rfl⟩:=hv;rfl) base w (Below.refl _ _) hb ?_
  ·obtain⟨b,off,e,_,hc⟩:=hr.2 (by omega)
   refine⟨⟨b,off,none⟩,e,fun j v hj=> ?_⟩;rw[List.getElem?_map,Option.map_eq_some_iff] at hj;obtain⟨x,hx,rfl⟩:=hj
   rw[Addr.add_lit];have:=hc j x hx 0 _ rfl
   unfold uV;simpa using this
  ·intro w' hw hbw;have hw':=hw.out;rw[hcl];refine h w' ⟨by rw[ZdM,List.length_map,Nat.mul_one],.inr ⟨g,dc,_,by rw[<-hxl],hb,hw',by omega,hcm,?_,?_⟩⟩ hbw
   ·rw[List.size_toArray,length_splice _ _ _ (by rw[hcl];simp;omega)];simp;omega
   ·unfold splice;rw[ZdM,Nat.mul_one];simp
end
section
open Go.RowKit Go.Shelf
def sg(neg:Bool):List UInt8:=if neg then[45] else[]
theorem Nz.drop{ms:List Nat}(h:Nz ms){k:Nat}(hk:k<ms.length):gv (ms.drop k)≠0:=by
 have hn:ms.drop k≠[]:=by intro e;have:=congrArg List.length e;rw[List.length_drop] at this;simp at this;omega
 have hz:Nz (ms.drop k):=by unfold Nz at *; rw[List.getLast?_drop,if_neg (by omega)];exact h
 have:=VI hn hz
 have:=Nat.pow_pos (n:=(ms.drop k).length-1) (show 0<1000000000 by decide)
 omega
def Zhc(neg:Bool)(v:Nat):List UInt8:=Qb (if neg then-(v:Int) else v)
theorem Zig(neg:Bool)(v:Nat)(hv:v≠0):Zhc neg v=sg neg++QD v:=by
 unfold Zhc;rw[YM]
 cases neg
 ·show(if(v:Int)<0 then[45] else[])++QD (Int.natAbs (v:Int))=[]++QD v
  rw[if_neg (by omega),Int.natAbs_natCast]
 ·show(if-(v:Int)<0 then[45] else[])++QD (Int.natAbs (-(v:Int)))=[45]++QD v
  rw[if_pos (by omega),Int.natAbs_neg,Int.natAbs_natCast]
def YB(neg:Bool)(ms:List Nat)(k:Nat):List UInt8:=sg neg++QD (gv (ms.drop k))
theorem Zda{neg:Bool}{ms:List Nat}{k g:Nat}(hg:ms[k]?=some g)(hgs:Gs ms)(hz:Nz ms)(hk:k+1<ms.length):YB neg ms k=YB neg ms (k+1)++(List.replicate (9-(Lib.decDigits g).length) 48++Lib.decDigits g):=by
 unfold YB;rw[QY ms k g hg,Zc4 _ g (hz.drop hk) (hgs.at_ hg),List.append_assoc]
theorem Zeq{neg:Bool}{ms:List Nat}{k g:Nat}(hg:ms[k]?=some g)(hz:Nz ms)(hk:k+1=ms.length):YB neg ms k=sg neg++Lib.decDigits g:=by
 have hgv:gv (ms.drop k)=g:=by rw[QY ms k g hg,List.drop_of_length_le (by omega)];simp[gv]
 have h0:=hz.drop (k:=k) (by omega);unfold YB;rw[hgv] at h0 ⊢;unfold QD;rw[if_neg h0]
theorem Jg{g:Nat}(h:g<1000000000):(Lib.decDigits g).length<=9:=(ZdI 8 g (by omega)).1
theorem XD(neg:Bool)(A:Option Addr)(n c:Nat)(xs:List Nat)(w:World)(hr:Gr w w.1.size A n xs)(hgs:Gs xs)(hc:n<=c)(hn:n<=1000000)(hp:Pow w):
 Calls Tryz.prog 69 #[.agg #[.bool neg,.slice A n c]] w fun e w'=>e=.returned (S (Zhc neg (gv xs)))/\Below w.1.size w w':=by
 have hb0:Below w.1.size w (w.alloc (.cells #[.bool neg,.slice A n c] 106)):=(Below.refl _ _).alloc (Nat.le_refl _) _;have HCUT:=jq (Yl A n c xs (w.alloc (.cells #[.bool neg,.slice A n c] 106)) (hr.here hb0) hc (by omega));have HR:=jq (hr.here hb0);have HP:=jq (hp.here hb0);have HB0:=jq hb0;have HG:=jq hgs;have HXN:=jq hr.1;have HC0:=jq (show(w.alloc (.cells #[.bool neg,.slice A n c] 106)).cell? ⟨w.1.size,0,none⟩=some (.bool neg) by simp[World.cell?_alloc_new]);have hsz:Hid ((w.alloc (.cells #[.bool neg,.slice A n c] 106)).heap.size=w.1.size+1):=by show _=_;simp
 clear hr hb0 hp hgs;unfold S;go_enter Tryz.func69,Tryz.ntmps69
 go_wp2_with fail
 generalize w.alloc _=W0 at*;refine HCUT.out.mono ?_;rintro e w' ⟨j,rfl,hj,hgv,hnz,rfl⟩;have HGV:=jq hgv;have HGJ:=jq (HG.out.take j);have HNZ:=jq hnz;have HMR:=jq (HR.out.take hj);have HML:=jq (show(xs.take j).length=j by rw[List.length_take,<-HXN.out];omega);clear hgv hnz HCUT HR HG;generalize xs.take j=ms at*
 by_cases hj0:j=0
 ·subst hj0;obtain rfl:ms=[]:=List.eq_nil_of_length_eq_zero HML.out;go_wp2_with fail
  go_ret
  refine⟨?_,HB0.out⟩;rw[<-HGV.out]
  cases neg<;>rfl
 ·obtain⟨j',rfl⟩:∃j',j=j'+1:=⟨j-1,by omega⟩
  clear hj0;have hjb:(((j'+1:Nat):Int)==0)=false:=by simp;omega
  have hjb2:((j':Int)+1==0)=false:=by simp;omega
  have hc0:=(((Below.refl W0.1.size W0).alloc (Nat.le_refl _) (.cells #[.pointer none,.slice none 0 0] 147)).cell (p:=⟨w.1.size,0,none⟩) (by have:=hsz.out;simp only;omega)).trans HC0.out;have HBN:=jq (Bld.new W0 (Nat.le_refl W0.1.size));have hbN:=(Below.refl W0.1.size W0).alloc (Nat.le_refl _) (.cells #[.pointer none,.slice none 0 0] 147);go_upto_if 14 with (fail)
  go_cut [4] (fun s wc=>s=.pointer (some ⟨W0.1.size,0,none⟩)/\Hid (Bld wc W0.1.size W0.1.size (sg neg))/\Below W0.1.size W0 wc)
  case first=>
   cases neg
   ·go_wp2_with fail
    go_meet
    exact⟨rfl,HBN,hbN⟩
   ·go_wp2_with (go_at_call 117;refine(JN W0.1.size W0.1.size [] 45 _ HBN.out (by simp)).mono ?_;rintro e w2 ⟨rfl,h2,hb2⟩)
    go_meet
    exact⟨rfl,h2,hbN.trans hb2⟩
  case rest=>
  clear hc0 HBN hbN hjb hjb2;obtain⟨rfl,HBL,hb1⟩:=hcut
  obtain⟨w1,rfl⟩:∃W,W=wc:=⟨_,rfl⟩
  obtain⟨mb,mo,g,rfl,hmb,hg,d0⟩:=HMR.out.grp (i:=j') (by omega)
  have d1:=(hb1.cell (p:=⟨mb,mo+j',none⟩) hmb).trans d0;clear d0;have hg9:=HGJ.out.at_ hg;have HTOP:=jq (Zeq (neg:=neg) hg HNZ.out (by rw[HML.out]));have HFU:=jq (YA g (by omega) w1 (HP.out.here hb1));have hdl:=Jg hg9;clear hg hg9;have j1:(((j'+1:Nat):Int)-1).toNat=j':=by omega
  go_wp2_with fail
  refine HFU.out.mono ?_;rintro e w2 ⟨rfl,hb2⟩;have HBL2:=jq (HBL.out.here hb2);have hb12:=hb1.trans (hb2.mono hb1.size);have hsl:(sg neg).length<=1:=by unfold sg;split<;>simp
  go_wp2_with fail
  refine(Yb W0.1.size W0.1.size (sg neg) (Lib.decDigits g) w2 HBL2.out (by omega)).mono ?_;rintro e w3 ⟨rfl,h3,hb3⟩;have hb13:=hb12.trans hb3;rw[<-HTOP.out] at h3;have HL3:=jq (show(YB neg ms j').length<=10 by rw[HTOP.out,List.length_append];omega);have HB3:=jq h3;clear h3 hb2 hb3 hb12 HBL HBL2 HFU hb1 d1 hdl j1 hsl;go_wp2_with fail
  go_loopw [5,6] (fun i _ wr=>∃(k:Nat) (ii:Int),i=.int .i64 ii/\Hid (ii=(k:Int)-1)/\Hid (k<=j')/\Hid (Bld wr W0.1.size W0.1.size (YB neg ms k))/\Hid ((YB neg ms k).length<=10+9*(j'-k))/\Below W0.1.size W0 wr) (fun i _ _=>(intOf i+1).toNat)
  case atStart=>exact⟨j',_,rfl,by show _=_;omega,by show _<=_;omega,HB3,by show _<=_;have:=HL3.out;omega,hb13⟩
  case round=>
   clear HB3 HL3 hb13;obtain⟨k,ii,rfl,HII,HK,HBK,HLK,hb⟩:=hrel
   by_cases hk0:k=0
   ·subst hk0;have hi0:ii<0:=by have:=HII.out;omega
    go_wp2_with fail
    refine(Zce W0.1.size W0.1.size (YB neg ms 0) wr HBK.out).mono ?_;rintro e w5 ⟨rfl,hb5⟩;go_wp2_with fail
    go_ret
    refine⟨?_,HB0.out.trans ((hb.trans hb5).mono HB0.out.size)⟩;have h0:=HNZ.out.drop (k:=0) (by rw[HML.out];omega);rw[List.drop_zero] at h0;rw[<-HGV.out,Zig neg _ h0];rfl
   ·obtain⟨k',rfl⟩:∃k',k=k'+1:=⟨k-1,by omega⟩
    obtain⟨mb',mo',g',e',_,hg',d0⟩:=HMR.out.grp (i:=k') (by have:=HK.out;omega)
    injection e' with e'
    injection e' with e1 e2
    subst e1;subst e2
    have d1:=(hb.cell (p:=⟨mb,mo+k',none⟩) hmb).trans d0;clear d0;have hg9:=HGJ.out.at_ hg';have HST:=jq (Zda (neg:=neg) hg' HGJ.out HNZ.out (by rw[HML.out];have:=HK.out;omega));have hdl:=Jg hg9;obtain rfl:ii=(k':Int):=by have:=HII.out;omega
    have HFU:=jq (YA g' (by omega) wr (HP.out.here hb));have hkj:k'+1<=j':=HK.out;clear hg' hg9 hk0;have hsz9:(⟨(Lib.decDigits g').toArray⟩:ByteArray).size=(Lib.decDigits g').length:=Qw _;have HRP:=jq (fun W=>Zbn (9-(Lib.decDigits g').length) (by omega) W);have hcast:((9-(Lib.decDigits g').length:Nat):Int)=9-((Lib.decDigits g').length:Int):=by omega
    rw[hcast] at HRP;have HCA:=jq hcast;have HS9:=jq hsz9;clear hcast hsz9;go_wp2_with fail
    refine HFU.out.mono ?_;rintro e w2 ⟨rfl,hb2⟩;have HB2:=jq (HBK.out.here hb2);have hb12:=hb.trans (hb2.mono hb.size);clear d1 HFU;go_wp2_with fail
    refine(HRP.out _).mono ?_;rintro e w3 ⟨rfl,hb3⟩;have HB3:=jq (HB2.out.here hb3);have hb13:=hb12.trans (hb3.mono hb12.size);have hrl:(List.replicate (9-(Lib.decDigits g').length) (48:UInt8)).length<=9:=by rw[List.length_replicate];omega
    have HLS:=jq (show(YB neg ms k').length<=10+9*(j'-k') by
     have h1:=HLK.out;rw[HST.out,List.length_append,List.length_append,List.length_replicate];omega)
    generalize hrp:List.replicate (9-(Lib.decDigits g').length) (48:UInt8)=rp at*;clear hrp;generalize Lib.decDigits g'=dd at*;have HWS:=jq (Yb W0.1.size W0.1.size (YB neg ms (k'+1)) (rp++dd) w3 HB3.out (by have:=HLK.out;rw[List.length_append];omega));rw[<-HST.out] at HWS;have HMK:=jq (Zei rp dd);clear HB2 HB3 hb2 hb3;go_wp2_with fail
    rw[HMK.out];refine HWS.out.mono ?_;rintro e w4 ⟨rfl,h4,hb4⟩;have HB4:=jq h4;have hb14:=hb13.trans hb4;clear h4 hb4 hb13 HWS HRP;go_wp2_with fail
    go_roundw
    case rel=>exact⟨k',(k':Int)-1,rfl,by show _=_;rfl,by show _<=_;omega,HB4,HLS,hb14⟩
    case measure=>simp[intOf]
end
section
open Go.RowKit Go.Shelf
theorem Xc{xs ys:List Nat}{u v:Nat}(hx:Mag xs u)(hy:Mag ys v)(h:xs.length<ys.length):u<v:=by
 have h1:=XP hx.gs;have h2:=VI (fun e=>by rw[e] at h;simp at h) hy.nz;rw[hx.val] at h1;rw[hy.val] at h2;have:1000000000^xs.length<=1000000000^(ys.length-1):=Nat.pow_le_pow_right (by omega) (by omega)
 omega
theorem Zcf{xs ys:List Nat}{i x y:Nat}(hgx:Gs xs)(hx:xs[i]?=some x)(hy:ys[i]?=some y)(hd:xs.drop (i+1)=ys.drop (i+1))(h:x<y):gv xs<gv ys:=by
 have lx:=(List.getElem?_eq_some_iff.1 hx).1;have ly:=(List.getElem?_eq_some_iff.1 hy).1;have hlt:=XP (hgx.take i);rw[List.length_take,Nat.min_eq_left (by omega)] at hlt;rw[Xr xs i (by omega),Xr ys i (by omega),QY xs i x hx,QY ys i y hy,hd]
 have:1000000000^i*(x+1000000000*gv (ys.drop (i+1)))+1000000000^i<=1000000000^i*(y+1000000000*gv (ys.drop (i+1))):=by
  rw[<-Nat.mul_succ];exact Nat.mul_le_mul_left _ (by omega)
 omega
def Zhd(u v:Nat)(w:World)(e:Ending)(w':World):Prop:=∃r:Int,e=.returned (.int .i64 r)/\(r<0↔u<v)/\(0<r↔v<u)/\ -1000001<=r/\r<=1000001/\Below w.1.size w w'
theorem Xt(A A':Option Addr)(n m c c':Nat)(xs ys:List Nat)(u v:Nat)(w:World)(hx:Gr w w.1.size A n xs)(hy:Gr w w.1.size A' m ys)(mx:Mag xs u)(my:Mag ys v)(hn:n<=1000000)(hm:m<=1000000):
 Calls Tryz.prog 113 #[.slice A n c,.slice A' m c'] w (Zhd u v w):=by
 have HXN:=jq hx.1;have HYN:=jq hy.1;have HX:=jq hx;have HY:=jq hy;have HMX:=jq mx;have HMY:=jq my;clear hx hy mx my
 by_cases hnm:n=m
 ·obtain rfl:n=m:=hnm;have hne:((n:Int) !=(n:Int))=false:=by simp
  go_enter Tryz.func113,Tryz.ntmps113
  go_wp2
  go_loopw [5] (fun i wr=>∃(k:Nat) (ii:Int),i=.int .i64 ii/\Hid (ii=(k:Int)-1)/\k<=n/\Hid (xs.drop k=ys.drop k)/\Below w.1.size w wr) (fun i _=>(intOf i+1).toNat)
  case atStart=>exact⟨n,_,rfl,by show _=_;rfl,Nat.le_refl _,by show _=_;rw[List.drop_of_length_le (by rw[<-HXN.out];omega),List.drop_of_length_le (by rw[<-HYN.out];omega)],Below.refl _ _⟩
  case round=>
   obtain⟨k,ii,rfl,HII,hk,HD,hb⟩:=hrel
   by_cases hk0:k=0
   ·subst hk0;have hi:ii<0:=by have:=HII.out;omega
    go_wp2
    go_ret
    have e:u=v:=by
     have:=HD.out
     rw[List.drop_zero,List.drop_zero] at this;rw[<-HMX.out.val,<-HMY.out.val,this]
    exact⟨0,rfl,by omega,by omega,by omega,by omega,hb⟩
   ·obtain⟨k',rfl⟩:∃k',k=k'+1:=⟨k-1,by omega⟩
    obtain rfl:ii=(k':Int):=by have:=HII.out;omega
    obtain⟨b1,o1,x,rfl,hl1,hx,d1⟩:=HX.out.grp (i:=k') (by omega)
    obtain⟨b2,o2,y,rfl,hl2,hy,d2⟩:=HY.out.grp (i:=k') (by omega)
    have d1':=(hb.cell (p:=⟨b1,o1+k',none⟩) hl1).trans d1;have d2':=(hb.cell (p:=⟨b2,o2+k',none⟩) hl2).trans d2;have HGX:=jq hx;have HGY:=jq hy;clear d1 d2 hx hy
    by_cases hlt:x<y
    ·have HL:=jq (Zcf HMX.out.gs HGX.out HGY.out HD.out hlt)
     go_wp2
     go_quiet (fail)
     go_wp2
     go_ret
     have h1:=HL.out;rw[HMX.out.val,HMY.out.val] at h1;exact⟨-1,rfl,by omega,by omega,by omega,by omega,bdN hb nq⟩
    ·have hlt':decide (x<y)=false:=by simpa using hlt
     by_cases hgt:y<x
     ·have HL:=jq (Zcf HMY.out.gs HGY.out HGX.out HD.out.symm hgt);clear hlt
      go_wp2
      go_quiet (fail)
      have d1'':(wr.drewN nq).cell? ⟨b1,o1+k',none⟩=some (.int .u64 x):=d1';have d2'':(wr.drewN nq).cell? ⟨b2,o2+k',none⟩=some (.int .u64 y):=d2';have hb':=bdN hb nq;clear d1' d2' hb;generalize wr.drewN nq=wq at*
      go_wp2
      go_quiet (fail)
      go_wp2
      go_ret
      have h1:=HL.out;rw[HMX.out.val,HMY.out.val] at h1;exact⟨1,rfl,by omega,by omega,by omega,by omega,bdN hb' _⟩
     ·have hgt':decide (y<x)=false:=by simpa using hgt
      obtain rfl:x=y:=by omega
      have HD2:=jq (show xs.drop k'=ys.drop k' by
       obtain⟨l1,e1⟩:=List.getElem?_eq_some_iff.1 HGX.out
       obtain⟨l2,e2⟩:=List.getElem?_eq_some_iff.1 HGY.out
       rw[List.drop_eq_getElem_cons l1,List.drop_eq_getElem_cons l2,e1,e2,HD.out])
      clear hlt hgt
      go_wp2
      go_quiet (fail)
      have d1'':(wr.drewN nq).cell? ⟨b1,o1+k',none⟩=some (.int .u64 x):=d1';have d2'':(wr.drewN nq).cell? ⟨b2,o2+k',none⟩=some (.int .u64 x):=d2';have hb':=bdN hb nq;clear d1' d2' hb;generalize wr.drewN nq=wq at*
      go_wp2
      go_quiet (fail)
      go_wp2
      go_roundw
      case rel=>exact⟨k',(k':Int)-1,rfl,by show _=_;rfl,by omega,HD2,bdN hb' _⟩
      case measure=>simp[intOf]
 ·have hne:((n:Int) !=(m:Int))=true:=by simp;omega
  go_enter Tryz.func113,Tryz.ntmps113
  go_wp2
  go_ret
  refine⟨(n:Int)-m,rfl,?_,?_,by omega,by omega,Below.refl _ _⟩
  ·constructor
   ·intro h;exact Xc HMX.out HMY.out (by rw[<-HXN.out,<-HYN.out];omega)
   ·intro h
    rcases Nat.lt_or_ge n m with h1|h1
    ·omega
    ·have:=Xc HMY.out HMX.out (by rw[<-HXN.out,<-HYN.out];omega);omega
  ·constructor
   ·intro h;exact Xc HMY.out HMX.out (by rw[<-HXN.out,<-HYN.out];omega)
   ·intro h
    rcases Nat.lt_or_ge m n with h1|h1
    ·omega
    ·have:=Xc HMX.out HMY.out (by rw[<-HXN.out,<-HYN.out];omega);omega
end
section
open Go.RowKit Go.Shelf
theorem Own.setU{w:World}{base g n c i x y:Nat}{os:List Nat}(h:Own U1 1 138 w base (.slice (some ⟨g,0,none⟩) n c) os)(hi:os[i]?=some x):
 Own U1 1 138 (w.setCell ⟨g,i,none⟩ (.int .u64 y)) base (.slice (some ⟨g,0,none⟩) n c) (os.set i y):=by
 have:=h.set_ Qc (i:=i) (j:=0) (x:=x) (y:=y) (u:=.int .u64 y) hi (by decide) rfl
 simpa using this
def gAt(ys:List Nat)(i:Nat):Nat:=ys.getD i 0
theorem ZaS(ys:List Nat)(i:Nat):gv (ys.take (i+1))=gv (ys.take i)+1000000000^i*gAt ys i:=by
 unfold gAt
 cases h:ys[i]? with
 |none=>
  have hl:=List.getElem?_eq_none_iff.1 h;rw[List.take_of_length_le (by omega),List.take_of_length_le hl];simp[List.getD,h]
 |some g=>rw[XQ ys i g h];simp[List.getD,h]
theorem Zih{ys:List Nat}(h:Gs ys)(i:Nat):gAt ys i<1000000000:=by
 unfold gAt
 cases hi:ys[i]? with
 |none=>simp[List.getD,hi]
 |some g=>simp[List.getD,hi];exact h.at_ hi
structure PInv (xs ys:List Nat) (i carry:Nat) (os:List Nat):Prop where
 len:os.length=xs.length
 val:gv (os.take i)+1000000000^i*carry=gv (xs.take i)+gv (ys.take i)
 gs:Gs (os.take i)
 rest:os.drop i=xs.drop i
 one:carry<=1
theorem PInv.zero(xs ys:List Nat):PInv xs ys 0 0 xs:=⟨rfl,by simp[gv],by simp;exact Gs.nil,rfl,by omega⟩
theorem QX{os:List Nat}{i d:Nat}(hi:i<os.length):(os.set i d).take (i+1)=os.take i++[d]:=by
 rw[List.take_succ_eq_append_getElem (by simpa using hi),List.getElem_set_self,List.take_set_of_le (Nat.le_refl _)]
theorem PInv.at_{xs ys os:List Nat}{i carry:Nat}(h:PInv xs ys i carry os){x:Nat}(hx:xs[i]?=some x):os[i]?=some x:=by
 have:=congrArg (fun l=>l[0]?) h.rest
 simp only[List.getElem?_drop,Nat.add_zero] at this;rw[this];exact hx
theorem PInv.step{xs ys os:List Nat}{i carry x:Nat}(h:PInv xs ys i carry os)(hx:xs[i]?=some x)(hgx:Gs xs)(hgy:Gs ys):
 PInv xs ys (i+1) ((x+carry+gAt ys i)/1000000000) (os.set i ((x+carry+gAt ys i)%1000000000)):=by
 have hi:=(List.getElem?_eq_some_iff.1 hx).1;have hio:i<os.length:=by rw[h.len];exact hi
 have h1:=hgx.at_ hx;have h2:=Zih hgy i;have h3:=h.one;refine⟨by rw[List.length_set];exact h.len,?_,?_,?_,by omega⟩
 ·rw[QX hio,XO,List.length_take,Nat.min_eq_left (by omega),XQ xs i x hx,ZaS ys i];have hv:=h.val;generalize hs:x+carry+gAt ys i=s at*
  have e:1000000000^i*(s%1000000000)+1000000000^(i+1)*(s/1000000000)=1000000000^i*s:=by
   rw[Nat.pow_succ,Nat.mul_assoc,<-Nat.mul_add]
   congr 1
   omega
  have e2:1000000000^i*s=1000000000^i*x+1000000000^i*carry+1000000000^i*gAt ys i:=by rw[<-hs,Nat.mul_add,Nat.mul_add]
  omega
 ·rw[QX hio];exact h.gs.snoc (by omega)
 ·rw[List.drop_set_of_lt (by omega)];have:=congrArg (List.drop 1) h.rest
  rw[List.drop_drop,List.drop_drop] at this;exact this
def Xy(v:Nat)(w:World)(e:Ending)(w':World):Prop:=∃A n c xs,e=.returned (.slice A n c)/\Own U1 1 138 w' w.1.size (.slice A n c) xs/\Mag xs v/\Below w.1.size w w'
theorem PInv.done{xs ys os:List Nat}{carry u v:Nat}(h:PInv xs ys xs.length carry os)(hx:Mag xs u)(hy:Mag ys v)(hl:ys.length<=xs.length):(carry=0->Mag os (u+v))/\(carry≠0->Mag (os++[carry]) (u+v)):=by
 have ht:os.take xs.length=os:=by rw[<-h.len,List.take_length]
 have hv:=h.val;have hg:=h.gs;rw[ht,List.take_length,List.take_of_length_le hl,hx.val,hy.val] at hv;rw[ht] at hg;have h1:=h.one;refine⟨fun hc=>⟨hg,?_,by rw[hc] at hv;simpa using hv⟩,fun hc=>⟨hg.snoc (by omega),?_,by rw[XO,h.len];exact hv⟩⟩
 ·subst hc;unfold Nz;intro hz
  by_cases hn:xs=[]
  ·subst hn;have:os=[]:=List.eq_nil_of_length_eq_zero h.len
   rw[this] at hz;simp at hz
  ·obtain⟨ps,p,rfl⟩:∃ps p,os=ps++[p]:=by
    have hne:os≠[]:=fun e=>hn (List.eq_nil_of_length_eq_zero (by rw[<-h.len,e];rfl))
    exact⟨os.dropLast,os.getLast hne,(List.dropLast_concat_getLast hne).symm⟩
   rw[List.getLast?_concat] at hz;injection hz with hz;subst hz;have htop:=VI hn hx.nz;rw[hx.val] at htop;have hlt:=XP (xs:=ps) (fun q hq=>hg q (by simp[hq]));have hpl:ps.length=xs.length-1:=by have:=h.len;rw[List.length_append] at this;simp at this;omega
   rw[XO] at hv;rw[hpl] at hlt;simp at hv;omega
 ·unfold Nz;rw[List.getLast?_concat];intro hz;injection hz with hz;exact hc hz
theorem Zcg(A A':Option Addr)(n m c c':Nat)(xs ys:List Nat)(u v:Nat)(w:World)(hx:Gr w w.1.size A n xs)(hy:Gr w w.1.size A' m ys)(mx:Mag xs u)(my:Mag ys v)(hn:n<=1000000)(hm:m<=1000000):
 Calls Tryz.prog 112 #[.slice A n c,.slice A' m c'] w (Xy (u+v) w):=by
 have HX:=jq hx;have HY:=jq hy;have HMX:=jq mx;have HMY:=jq my;clear hx hy mx my;have HPO:=jq (show Xy (u+v) w=fun e w'=>∃A n c xs,e=.returned (.slice A n c)/\Own U1 1 138 w' w.1.size (.slice A n c) xs/\Mag xs (u+v)/\Below w.1.size w w' from rfl);generalize Xy (u+v) w=post at*;go_enter Tryz.func112,Tryz.ntmps112
 go_upto_if 12 with (fail)
 go_cut [0,1] (fun s t wc=>∃(A1 A2:Option Addr) (n1 n2 c1 c2:Nat) (ls ss:List Nat) (ul us:Nat),s=.slice A1 n1 c1/\t=.slice A2 n2 c2/\n2<=n1/\n1<=1000000/\Hid (Gr w w.1.size A1 n1 ls)/\Hid (Gr w w.1.size A2 n2 ss)/\Hid (Mag ls ul)/\Hid (Mag ss us)/\Hid (ul+us=u+v)/\wc=w)
 case first=>
  by_cases hnm:n<m
  ·have hd:decide (n<m)=true:=by simpa using hnm
   go_wp2_with fail
   go_meet
   exact⟨A',A,m,n,c',c,ys,xs,v,u,rfl,rfl,by omega,by omega,HY,HX,HMY,HMX,by show _=_;omega,rfl⟩
  ·have hd:decide (n<m)=false:=by simpa using hnm
   go_wp2_with fail
   go_meet
   exact⟨A,A',n,m,c,c',xs,ys,u,v,rfl,rfl,by omega,by omega,HX,HY,HMX,HMY,by show _=_;rfl,rfl⟩
 case rest=>
 clear HX HY HMX HMY hn hm;obtain⟨A1,A2,n1,n2,c1,c2,ls,ss,ul,us,rfl,rfl,h21,hn1,HX,HY,HMX,HMY,HUV,hwc⟩:=hcut
 subst hwc;obtain⟨w0,rfl⟩:∃W,W=wc:=⟨_,rfl⟩
 obtain⟨w1,hmk,ho1,hb1⟩:=Zbp w0 w0.1.size n1 (n1+1) (n1:Int) ((n1:Int)+1) rfl (by omega) (by omega) (by omega) (Nat.le_refl _)
 have HO1:=jq ho1;clear ho1;have HX1:=jq (HX.out.below hb1);go_wp2_with (with_reducible refine Zbq rfl (.tmp 21) (.tmp 22) rfl w0.1.size w0.1.size n1 (n1+1) A1 c1 (List.replicate n1 0) ls rfl rfl HO1.out _ HX1.out ?_;intro w2 ho2 hb2)
 clear hmk HO1 HX1;have hb02:=hb1.trans hb2;have HO2:=jq ho2;clear ho2 hb1 hb2;have HLN:=jq HX.out.1;have HSN:=jq HY.out.1
 go_loopw [6,7,26] (fun cy _ i wr=>∃(k carry:Nat) (os:List Nat),k<=n1/\i=.int .i64 k/\cy=.int .u64 carry/\carry<=1/\Hid (PInv ls ss k carry os)/\Hid (Own U1 1 138 wr w0.1.size (.slice (some ⟨w0.1.size,0,none⟩) n1 (n1+1)) os)/\Below w0.1.size w0 wr) (fun _ _ i _=>n1-(intOf i).toNat)
 case atStart=>exact⟨0,0,ls,Nat.zero_le _,rfl,rfl,by omega,PInv.zero ls ss,HO2,hb02⟩
 case round=>
  clear HO2 hb02;obtain⟨k,carry,os,hk,rfl,rfl,hcy,HI,HO,hb⟩:=hrel
  by_cases hlt:k<n1
  ·obtain⟨xb,xo,x,hxA,hxb,hxk,_⟩:=HX.out.grp hlt
   have hok:=HI.out.at_ hxk;have hx9:=HMX.out.gs.at_ hxk;have HST:=jq (HI.out.step hxk HMX.out.gs HMY.out.gs);obtain⟨gb,go,x',e',_,hx',d0⟩:=(HO.out.sl Qc).grp hlt
   injection e' with e'
   injection e' with e1 e2
   subst e1;subst e2
   rw[hok] at hx';injection hx' with hx'
   subst hx'
   simp only[Nat.zero_add] at d0;have f0:=HO.out.frozen k;have HOK:=jq hok;have hol:k<os.length:=(List.getElem?_eq_some_iff.1 hok).1;have HOL:=jq hol;clear hok hxk hxA hxb hol
   by_cases hk2:k<n2
   ·obtain⟨yb,yo,y,rfl,hyb,hyk,d1⟩:=HY.out.grp hk2
    have d1':=(hb.cell (p:=⟨yb,yo+k,none⟩) hyb).trans d1;have hy9:=HMY.out.gs.at_ hyk;have HGA:=jq (show gAt ss k=y by unfold gAt;simp[List.getD,hyk]);rw[HGA.out] at HST;have hyne:yb≠w0.1.size:=by omega
    clear hyk d1
    go_wp2
    go_region
    all_goals
     go_wp2
     go_roundw
     case rel=>
      have h1:=HO.out.setU (y:=x+carry) HOK.out;have h2:=h1.setU (i:=k) (x:=x+carry) (y:=x+carry+y) (by simp[HOL.out]);have h3:=h2.setU (i:=k) (x:=x+carry+y) (y:=(x+carry+y)%1000000000) (by simp[HOL.out]);rw[show((x+carry:Nat):Int)=(x:Int)+carry by omega,show((x+carry+y:Nat):Int)=(x:Int)+carry+y by omega,show(((x+carry+y)%1000000000:Nat):Int)=((x:Int)+carry+y)%1000000000 by omega,List.set_set,List.set_set] at h3;refine⟨k+1,(x+carry+y)/1000000000,os.set k ((x+carry+y)%1000000000),by omega,by go_num,by go_num,by omega,HST,?_,?_⟩
      ·show Own _ _ _ _ _ _ _
       with_reducible exact h3.drew
      ·with_reducible exact(((hb.setCell (Nat.le_refl _) _).setCell (Nat.le_refl _) _).setCell (Nat.le_refl _) _).drew
     case measure=>simp[intOf];omega
   ·have HGA:=jq (show gAt ss k=0 by unfold gAt;simp[List.getD];rw[List.getElem?_eq_none (by rw[<-HSN.out];omega)];rfl);rw[HGA.out,Nat.add_zero] at HST;have hk3:decide (k<n2)=false:=by simpa using hk2
    clear hk2
    go_wp2
    go_roundw
    case rel=>
     have h1:=HO.out.setU (y:=x+carry) HOK.out;have h3:=h1.setU (i:=k) (x:=x+carry) (y:=(x+carry)%1000000000) (by simp[HOL.out]);rw[show((x+carry:Nat):Int)=(x:Int)+carry by omega,show(((x+carry)%1000000000:Nat):Int)=((x:Int)+carry)%1000000000 by omega,List.set_set] at h3;refine⟨k+1,(x+carry)/1000000000,os.set k ((x+carry)%1000000000),by omega,by go_num,by go_num,by omega,HST,?_,?_⟩
     ·show Own _ _ _ _ _ _ _
      with_reducible exact h3
     ·with_reducible exact((hb.setCell (Nat.le_refl _) _).setCell (Nat.le_refl _) _)
    case measure=>simp[intOf];omega
  ·obtain rfl:n1=k:=by omega
   have HDN:=jq (PInv.done (by have:=HI.out;rw[HLN.out] at this;exact this) HMX.out HMY.out (by rw[<-HLN.out,<-HSN.out];omega));rw[HUV.out] at HDN
   by_cases hc0:carry=0
   ·subst hc0
    go_wp2
    rw[HPO.out];exact⟨_,_,_,os,rfl,HO.out,HDN.out.1 (by first|rfl|trivial),hb⟩
   ·have hcp:0<(carry:Int):=by omega
    obtain⟨hof,_⟩:=HO.out.facts
    have HOF:=jq hof;clear hof;go_wp2_with (at_builtin;refine QJ _ rfl (.tmp 64) (.tmp 66) _ rfl Jx Qc Zbo (base:=w0.1.size) (.slice (some ⟨w0.1.size,0,none⟩) n1 (n1+1)) os rfl (HO.out.alloc _) _ _ 1 1 [carry] rfl (Sl.lit wr #[.int .u64 carry] 138 [carry] rfl Qc) (by rw[<-HOF.out];omega) (by have:=hb.size;simp;omega) ?_;intro A4 c4 w4 ho4 hg4 hat4)
    have hb4:Below w0.1.size w0 w4:=Xb (hb.alloc hb.size _) hg4 (by have:=hb.size;simp;omega) (fun g' e=>by simp[Value.ownBlock] at e;omega);have HO4:=jq ho4;clear ho4 hg4 hat4;rw[HPO.out];exact⟨A4,_,c4,os++[carry],rfl,HO4.out,HDN.out.2 hc0,hb4⟩
end
section
open Go.RowKit Go.Shelf
theorem Zdb(A:Option Addr)(n c:Nat)(xs:List Nat)(w:World)(hr:Gr w w.1.size A n xs)(hn:n<=1000000):
 Calls Tryz.prog 163 #[.slice A n c] w (RetOwn U1 1 138 w.1.size w xs):=by
 have hnil:=run_eql_slice_nil w 104 138 A n c Tryz.underlying104
 cases A with
 |none=>
  obtain rfl:xs=[]:=by
   by_cases h:0<n
   ·obtain⟨b,off,e,_⟩:=hr.2 h;cases e
   ·exact List.eq_nil_of_length_eq_zero (by rw[<-hr.1];omega)
  simp only[Option.isNone_none] at hnil;clear hr;go_enter Tryz.func163,Tryz.ntmps163
  go_wp2
  go_ret
  exact RetOwn.mk rfl Own.nil (Below.refl _ _)
 |some ad=>
  simp only[Option.isNone_some] at hnil;have HR:=jq (hr.alloc (Nat.le_refl _) (.cells #[] 138));clear hr;go_enter Tryz.func163,Tryz.ntmps163
  go_wp2_with (at_builtin;refine QJ _ rfl (.tmp 5) (.tmp 6) _ rfl Jx Qc Zbo (base:=w.1.size) (.slice (some ⟨w.1.size,0,none⟩) 0 0) [] rfl (Own.lit w #[] 138 [] rfl Qc (Nat.le_refl _) (by simp)) _ _ n c xs rfl HR.out (by simp;omega) (by simp) ?_
               intro A3 c3 w3 ho3 hg3 _;rw[List.length_nil,Nat.zero_add] at ho3 ⊢;rw[List.nil_append] at ho3;have hb3:Below w.1.size w w3:=Xb ((Below.refl _ _).alloc (Nat.le_refl _) _) hg3 (by simp) (fun g e=>by simp[Value.ownBlock] at e;omega);have HO3:=jq ho3;clear ho3 hg3)
  go_ret
  exact RetOwn.mk rfl HO3.out hb3
structure MInv (xs ys:List Nat) (i borrow:Nat) (os:List Nat):Prop where
 len:os.length=xs.length
 val:gv (os.take i)+gv (ys.take i)=gv (xs.take i)+1000000000^i*borrow
 gs:Gs (os.take i)
 rest:os.drop i=xs.drop i
 one:borrow<=1
theorem MInv.zero(xs ys:List Nat):MInv xs ys 0 0 xs:=⟨rfl,by simp[gv],by simp;exact Gs.nil,rfl,by omega⟩
theorem MInv.at_{xs ys os:List Nat}{i borrow:Nat}(h:MInv xs ys i borrow os){x:Nat}(hx:xs[i]?=some x):os[i]?=some x:=by
 have:=congrArg (fun l=>l[0]?) h.rest
 simp only[List.getElem?_drop,Nat.add_zero] at this;rw[this];exact hx
theorem MInv.step{xs ys os:List Nat}{i borrow x d b':Nat}(h:MInv xs ys i borrow os)(hx:xs[i]?=some x)(hd:d<1000000000)(hb:b'<=1)(he:d+(borrow+gAt ys i)=x+1000000000*b'):
 MInv xs ys (i+1) b' (os.set i d):=by
 have hi:=(List.getElem?_eq_some_iff.1 hx).1;have hio:i<os.length:=by rw[h.len];exact hi
 refine⟨by rw[List.length_set];exact h.len,?_,?_,?_,hb⟩
 ·rw[QX hio,XO,List.length_take,Nat.min_eq_left (by omega),XQ xs i x hx,ZaS ys i];have hv:=h.val;have e:=congrArg (fun t=>1000000000^i*t) he;simp only[Nat.mul_add] at e;rw[Nat.pow_succ,Nat.mul_assoc];omega
 ·rw[QX hio];exact h.gs.snoc hd
 ·rw[List.drop_set_of_lt (by omega)];have:=congrArg (List.drop 1) h.rest
  rw[List.drop_drop,List.drop_drop] at this;exact this
theorem MInv.done{xs ys os:List Nat}{borrow u v:Nat}(h:MInv xs ys xs.length borrow os)(hx:gv xs=u)(hy:gv ys=v)(hl:ys.length<=xs.length)(huv:v<=u):Gs os/\gv os=u-v:=by
 have ht:os.take xs.length=os:=by rw[<-h.len,List.take_length]
 have hv:=h.val;have hg:=h.gs;rw[ht,List.take_length,List.take_of_length_le hl,hx,hy] at hv;rw[ht] at hg;have h1:=h.one;have hlt:=XP hg;rw[h.len] at hlt
 have hb0:borrow=0:=by
  by_cases hb:borrow=0
  ·exact hb
  ·have:borrow=1:=by omega
   rw[this,Nat.mul_one] at hv;omega
 rw[hb0,Nat.mul_zero] at hv;exact⟨hg,by omega⟩
theorem ZaT(A A':Option Addr)(n m c c':Nat)(xs ys:List Nat)(u v:Nat)(w:World)(hx:Gr w w.1.size A n xs)(hy:Gr w w.1.size A' m ys)(mx:Mag xs u)(my:Mag ys v)(hn:n<=1000000)(huv:v<=u):
 Calls Tryz.prog 114 #[.slice A n c,.slice A' m c'] w (Xy (u-v) w):=by
 have hmn:m<=n:=by
  rcases Nat.lt_or_ge n m with h|h
  ·have:=Xc mx my (by rw[<-hx.1,<-hy.1];exact h);omega
  ·exact h
 have HCL:=jq (Zdb A n c xs w hx hn);have HX:=jq hx;have HY:=jq hy;have HMX:=jq mx;have HMY:=jq my;have HXN:=jq hx.1;have HYN:=jq hy.1;have HUV:=jq huv;clear hx hy mx my huv;have HPO:=jq (show Xy (u-v) w=fun e w'=>∃A n c xs,e=.returned (.slice A n c)/\Own U1 1 138 w' w.1.size (.slice A n c) xs/\Mag xs (u-v)/\Below w.1.size w w' from rfl);generalize Xy (u-v) w=post at*;go_enter Tryz.func114,Tryz.ntmps114
 go_wp2_with fail
 refine HCL.out.mono ?_;rintro e w1 ⟨Ao,co,rfl,ho1,hb1⟩;rw[<-HXN.out] at ho1 ⊢;obtain⟨hq,hco,hq2,hAo⟩:=ho1.facts
 rw[<-HXN.out] at hco;clear hq hq2;have HAo:=jq hAo;have HO1:=jq ho1;clear ho1 hAo HCL;go_wp2_with fail
 go_loopw [6,7,8,13] (fun bo _ _ i wr=>∃(k borrow:Nat) (os:List Nat),k<=n/\i=.int .i64 k/\bo=.int .u64 borrow/\borrow<=1/\Hid (MInv xs ys k borrow os)/\Hid (Own U1 1 138 wr w.1.size (.slice Ao n co) os)/\Below w.1.size w wr) (fun _ _ _ i _=>n-(intOf i).toNat)
 case atStart=>exact⟨0,0,xs,Nat.zero_le _,rfl,rfl,by omega,MInv.zero xs ys,HO1,hb1⟩
 case round=>
  clear HO1 hb1;obtain⟨k,borrow,os,hk,rfl,rfl,hbo,HI,HO,hb⟩:=hrel
  by_cases hlt:k<n
  ·obtain⟨xb,xo,x,hxA,hxb,hxk,_⟩:=HX.out.grp hlt
   have hok:=HI.out.at_ hxk;have hx9:=HMX.out.gs.at_ hxk;have HST:=jq (fun d b' h1 h2 h3=>HI.out.step (d:=d) (b':=b') hxk h1 h2 h3);obtain⟨gb,go,x',e',_,hx',d0⟩:=(HO.out.sl Qc).grp hlt
   obtain⟨g,hg⟩:∃g,Ao=some ⟨g,0,none⟩:=by
    rcases HAo.out with ⟨h,_⟩|⟨g,h,_⟩
    ·rw[h] at e';cases e'
    ·exact⟨g,h⟩
   subst hg
   have hgw:w.1.size<=g:=by
    rcases HAo.out with ⟨h,_⟩|⟨g',h,h2,_⟩
    ·cases h
    ·injection h with h;injection h with h;omega
   injection e' with e'
   injection e' with e1 e2
   subst e1;subst e2
   rw[hok] at hx';injection hx' with hx'
   subst hx'
   simp only[Nat.zero_add] at d0;have f0:=HO.out.frozen k;have HOK:=jq hok;have HOL:=jq (List.getElem?_eq_some_iff.1 hok).1;clear hok hxk hxA hxb
   have key:∀y:Nat,y<1000000000->gAt ys k=y->(x<borrow+y->MInv xs ys (k+1) 1 (os.set k (x+1000000000-(borrow+y))))/\(¬x<borrow+y->MInv xs ys (k+1) 0 (os.set k (x-(borrow+y)))):=by
    intro y hy hgy;refine⟨fun h=>HST.out _ _ (by omega) (by omega) (by rw[hgy];omega),fun h=>HST.out _ _ (by omega) (by omega) (by rw[hgy];omega)⟩
   have HKEY:=jq key;clear key HST
   by_cases hk2:k<m
   ·obtain⟨yb,yo,y,rfl,hyb,hyk,d1⟩:=HY.out.grp hk2
    have d1':=(hb.cell (p:=⟨yb,yo+k,none⟩) hyb).trans d1;have hy9:=HMY.out.gs.at_ hyk;have HGA:=jq (HKEY.out y hy9 (show gAt ys k=y by unfold gAt;simp[List.getD,hyk]));clear hyk d1 HKEY
    by_cases hxl:x<borrow+y
    ·have HM:=jq (HGA.out.1 (by omega));have hxd:decide (x<borrow+y)=true:=by simpa using hxl
     go_wp2
     go_roundw
     case rel=>
      have h1:=HO.out.setU (y:=x+1000000000) HOK.out;have h3:=h1.setU (i:=k) (x:=x+1000000000) (y:=x+1000000000-(borrow+y)) (by simp[HOL.out]);rw[show((x+1000000000:Nat):Int)=(x:Int)+1000000000 by omega,show((x+1000000000-(borrow+y):Nat):Int)=(x:Int)+1000000000-((borrow:Int)+y) by omega,List.set_set] at h3;refine⟨k+1,1,os.set k (x+1000000000-(borrow+y)),by omega,by go_num,rfl,by omega,HM,?_,?_⟩
      ·show Own _ _ _ _ _ _ _
       with_reducible exact h3
      ·with_reducible exact((hb.setCell hgw _).setCell hgw _)
     case measure=>simp[intOf];omega
    ·have HM:=jq (HGA.out.2 (by omega));have hxd:decide (x<borrow+y)=false:=by simpa using hxl
     go_wp2
     go_roundw
     case rel=>
      have h3:=HO.out.setU (y:=x-(borrow+y)) HOK.out;rw[show((x-(borrow+y):Nat):Int)=(x:Int)-((borrow:Int)+y) by omega] at h3;refine⟨k+1,0,os.set k (x-(borrow+y)),by omega,by go_num,rfl,by omega,HM,?_,?_⟩
      ·show Own _ _ _ _ _ _ _
       with_reducible exact h3
      ·with_reducible exact(hb.setCell hgw _)
     case measure=>simp[intOf];omega
   ·have HGA:=jq (HKEY.out 0 (by omega) (show gAt ys k=0 by unfold gAt;simp[List.getD];rw[List.getElem?_eq_none (by rw[<-HYN.out];omega)];rfl));rw[Nat.add_zero] at HGA;have hk3:decide (k<m)=false:=by simpa using hk2
    clear hk2 HKEY
    by_cases hxl:x<borrow
    ·have HM:=jq (HGA.out.1 (by omega));have hxd:decide (x<borrow)=true:=by simpa using hxl
     go_wp2
     go_roundw
     case rel=>
      have h1:=HO.out.setU (y:=x+1000000000) HOK.out;have h3:=h1.setU (i:=k) (x:=x+1000000000) (y:=x+1000000000-(borrow)) (by simp[HOL.out]);rw[show((x+1000000000:Nat):Int)=(x:Int)+1000000000 by omega,show((x+1000000000-(borrow):Nat):Int)=(x:Int)+1000000000-((borrow:Int)) by omega,List.set_set] at h3;refine⟨k+1,1,os.set k (x+1000000000-(borrow)),by omega,by go_num,rfl,by omega,HM,?_,?_⟩
      ·show Own _ _ _ _ _ _ _
       with_reducible exact h3
      ·with_reducible exact((hb.setCell hgw _).setCell hgw _)
     case measure=>simp[intOf];omega
    ·have HM:=jq (HGA.out.2 (by omega));have hxd:decide (x<borrow)=false:=by simpa using hxl
     go_wp2
     go_roundw
     case rel=>
      have h3:=HO.out.setU (y:=x-(borrow)) HOK.out;rw[show((x-(borrow):Nat):Int)=(x:Int)-((borrow:Int)) by omega] at h3;refine⟨k+1,0,os.set k (x-(borrow)),by omega,by go_num,rfl,by omega,HM,?_,?_⟩
      ·show Own _ _ _ _ _ _ _
       with_reducible exact h3
      ·with_reducible exact(hb.setCell hgw _)
     case measure=>simp[intOf];omega
  ·obtain rfl:n=k:=by omega
   have HDN:=jq (MInv.done (by have:=HI.out;rw[HXN.out] at this;exact this) HMX.out.val HMY.out.val (by rw[<-HXN.out,<-HYN.out];omega) HUV.out);have HOF:=jq HO.out.facts.1;have HCUT:=jq (Yl Ao n co os wr (HO.out.sl Qc) (by have:=HO.out.facts.2.1;rw[<-HOF.out] at this;exact this) (by omega));go_wp2_with fail
   (with_reducible refine HCUT.out.mono ?_)
   rintro e w3 ⟨j,rfl,hj,hgv,hnz,rfl⟩;go_wp2_with fail
   rw[HPO.out];refine⟨Ao,j,co,os.take j,rfl,?_,⟨HDN.out.1.take j,hnz,by rw[hgv];exact HDN.out.2⟩,hb⟩
   rcases HAo.out with ⟨h,hco0,hnil⟩|⟨g,h,_⟩
   ·subst h;have hn0:n=0:=by have:=HXN.out;rw[hnil] at this;simpa using this
    obtain rfl:j=0:=by omega
    rw[hco0];exact Own.nil
   ·subst h;exact HO.out.shrink Qc (by rw[<-HOF.out];exact hj)
end
end Go.Proofs.YtokjnjdbnabchaaGreatDoor
