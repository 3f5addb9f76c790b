/- Vin, Vcc. -/
import Derived.Test.YtbcnkcldlealjaaGreatDoorQGVb38
import Derived.Lib.Overlaps
import Derived.Lib.LazyBuf
import Derived.Laws.Externs
import Derived.Deep.RegionLaw
import Derived.RegionTactic
import Derived.Test.YtbcnkcldlealjaaGreatDoorSht
set_option maxRecDepth 100000
set_option maxHeartbeats 4000000
namespace Go.Proofs.YtbcnkcldlealjaaGreatDoor
open Go.Lib renaming hid→jq
open Go.RowKit Go.Shelf
section
theorem ZdI(a:Addr)(n c:Nat)(xs:List Fx)(w:World)(hr:Sl Qt 21 w w.1.size (some a) n xs)(hn:n<=1000000):
 Calls Tryz.prog 30 #[.slice (some a) n c] w (RetOwn Qt 21 44 w.1.size w xs):=by
 have HR:=jq (hr.alloc (Nat.le_refl _) (.cells #[] 44));clear hr;have hnil:(binOp .eql 22 (.slice (some a) n c) (.slice none 0 0)).run Tryz.prog w=.ok (.bool false) w:=run_eql_slice_nil w 22 44 _ n c Tryz.underlying22;go_enter Tryz.func30,Tryz.ntmps30
 go_wp2_with (at_builtin;refine QK _ rfl (.tmp 5) (.tmp 6) _ rfl QS Qc Xa (base:=w.1.size) (.slice (some ⟨w.1.size,0,none⟩) 0 0) [] rfl (Own.lit w #[] 44 [] rfl Qc (Nat.le_refl _) (by simp)) _ _ n c xs rfl HR.out (by simp;omega) (by simp) ?_
              intro A3 c3 w3 ho3 hg3 _;rw[List.length_nil,Nat.zero_add] at ho3 ⊢;rw[List.nil_append] at ho3;have hb3:Below w.1.size w w3:=Xc ((Below.refl _ _).alloc (Nat.le_refl _) _) hg3 (by simp) (fun g e=>by simp[Value.ownBlock] at e;omega);have HO3:=jq ho3;clear ho3 hg3)
 go_ret
 exact RetOwn.mk rfl HO3.out hb3
theorem ZdJ(w:World):Calls Tryz.prog 30 #[.slice none 0 0] w (RetOwn Qt 21 44 w.1.size w ([]:List Fx)):=by
 have hnil:(binOp .eql 22 (.slice none 0 0) (.slice none 0 0)).run Tryz.prog w=.ok (.bool true) w:=run_eql_slice_nil w 22 44 _ 0 0 Tryz.underlying22;go_enter Tryz.func30,Tryz.ntmps30
 go_wp2
 go_ret
 exact RetOwn.mk rfl Own.nil (Below.refl _ _)
def YE(base:Nat)(w:World)(n:Nat)(xs:List Fx)(e:Ending)(w':World):Prop:=
 ∃A c,e=.returned (.slice A n c)/\Own Qt 21 44 w' base (.slice A n c) xs/\Below base w w'
theorem ZhY(A:Option Addr)(n c vb base:Nat)(xs:List Fx)(x:Fx)(w:World)(ho:Own Qt 21 44 w base (.slice A n c) xs)(hv:Sl Qt 21 w w.1.size (some ⟨vb,0,none⟩) 1 [x])(hn:n<=1000000)(hbs:base<=w.1.size):
 Calls Tryz.prog 29 #[.slice A n c,.int .i64 n,.slice (some ⟨vb,0,none⟩) 1 1] w (YE base w (n+1) (xs++[x])):=by
 obtain⟨hnx,hxc,hcm,hA⟩:=ho.facts
 have HO:=jq ho;have HV:=jq hv;have hc63:c<=9223372036854775807:=by unfold maxLen at hcm;omega
 have hnc:n<=c:=by omega
 have HRI:=jq (show ∀e w',YE base w (n+1) (xs++[x]) e w'=∃A c,e=.returned (.slice A (n+1) c)/\Own Qt 21 44 w' base (.slice A (n+1) c) (xs++[x])/\Below base w w' from fun _ _=>rfl);generalize YE base w (n+1) (xs++[x])=post at*;have HA:=jq hA;have HN:=jq hnx;clear ho hv hcm hxc hA hnx;go_enter Tryz.func29,Tryz.ntmps29
 go_wp2_with (at_builtin;refine QK _ rfl (.tmp 23) (.tmp 24) _ rfl QS Qc Xa (base:=base) (.slice A n c) xs rfl HO.out _ _ 1 1 [x] rfl HV.out (by rw[<-HN.out];omega) hbs ?_
              intro A3 c3 w3 ho3 hg3 _;rw[<-HN.out] at ho3 ⊢;have HO3:=jq ho3;have HG3:=jq hg3;clear ho3 hg3)
 all_goals
  first|go_ret|skip
  rw[HRI.out];refine⟨A3,c3,rfl,HO3.out,Xc (Below.refl _ _) HG3.out hbs (fun g e=> ?_)⟩
  rcases HA.out with ⟨rfl,_⟩|⟨g',rfl,hg1,_⟩
  ·simp[Value.ownBlock] at e
  ·simp[Value.ownBlock] at e;omega
theorem Zf4(w:World)(vb g off lb cb:Nat)(x:Fx)(cur:Array Value)(hv:BlkB w vb (Qa x.1 x.2) 44)(hg:BlkB w g cur 44)(hc:cur.size≠0)(hne:vb≠g):
 (callFunc 63 #[.slice (some ⟨vb,0,none⟩) 1 1,.slice (some ⟨g,off,none⟩) lb cb]).run Tryz.prog w=.ok (.value (.bool false)) w:=by
 have hsa:w.shape? vb=some (44,21):=by unfold BlkB at hv;simp[World.shape?,hv,Qe]
 have hsb:w.shape? g=some (44,cur.size):=by unfold BlkB at hg;simp[World.shape?,hg]
 rw[run_callFunc_extern Tryz.func63 (by kernel_rfl) (by kernel_rfl) (by kernel_rfl) (e:=Extern.SlicesOverlaps.overlaps #[22,22] #[4]) (by kernel_rfl),
  Lib.run_overlaps_apart w 22 4 44 Tryz.underlying22 21 Tryz.sizeOf44 ⟨vb,0,none⟩ ⟨g,off,none⟩ 1 1 lb cb hne 44 44 21 cur.size hsa hsb hc (hv.frozen 0) (hv.frozen 21)]
 rfl
theorem Zf5(g n c i vb base:Nat)(xs:List Fx)(x:Fx)(w:World)(ho:Own Qt 21 44 w base (.slice (some ⟨g,0,none⟩) n c) xs)(hv:BlkB w vb (Qa x.1 x.2) 44)(hne:vb≠g)(hi:i<n)(hroom:n+1<=c)(hn:n<=1000000)(_hbs:base<=w.1.size):
 Calls Tryz.prog 29 #[.slice (some ⟨g,0,none⟩) n c,.int .i64 i,.slice (some ⟨vb,0,none⟩) 1 1] w (YE base w (n+1) (xs.take i++x::xs.drop i)):=by
 obtain⟨hnx,hxc,hcm,hA⟩:=ho.facts
 have ho2:=ho.2
 rcases ho2 with ⟨hv0,_⟩|⟨g',cap',cur,hv1,hbg,hg,hnc,_,hcs,htk⟩
 ·cases hv0
 injection hv1 with a1 a2 a3;injection a1 with a1;injection a1 with a1 _;subst a1;subst a3
 subst hnx;have hsz:(Tryz.prog.info? 44).map (·.size)=some 21:=by kernel_rfl
 have hgB:BlkB w g cur 44:=hg;have hg1:w.drew.heap[g]?=some (.cells cur.toList.toArray 44 (0,0)):=by rw[Array.toArray_toList];exact hg
 have hfl:(xs.flatMap Qt).length=xs.length*21:=Ql Qc xs;have hcl:cur.toList.length=c*21:=by simpa using hcs
 have hcells:∀(j:Nat) (v:Value),(xs.flatMap Qt)[j]?=some v->cur[j]?=some v:=by
  intro j v hj;rw[<-htk,List.getElem?_take] at hj
  split at hj
  ·simpa using hj
  ·cases hj
 have hcp1:∀ty dc sc,(Builtin.copy_ #[22,22] ty #[.slice (some ⟨g,(i+1)*21,none⟩) (xs.length-i) dc,.slice (some ⟨g,i*21,none⟩) (xs.length+1-i) sc]).run Tryz.prog w.drew=.ok (goInt (xs.length-i:Nat)) (w.drew.setRow g (splice cur.toList ((i+1)*21) ((xs.drop i).flatMap Qt)).toArray):=fun ty dc sc=>
  Vc w.drew _ _ ty 44 21 g ((i+1)*21) _ dc ⟨g,i*21,none⟩ _ sc (xs.length-i) cur.toList 44 ((xs.drop i).flatMap Qt) Tryz.underlying22 hsz hg1 (by simp only[Nat.min_def];split<;>omega) (by rw[Ql Qc,List.length_drop])
   (fun j v hj=>by
     rw[Addr.add_lit]
     show w.cell? ⟨g,i*21+j,none⟩=some v
     exact hgB.cell (i*21+j) (hcells (i*21+j) v (by
      have e:(xs.flatMap Qt).drop (i*21)=(xs.drop i).flatMap Qt:=by
       conv=>lhs;rw[<-List.take_append_drop i xs,List.flatMap_append]
       rw[List.drop_append_of_le_length (by rw[Ql Qc,List.length_take];omega),List.drop_eq_nil_of_le (by rw[Ql Qc,List.length_take];omega),List.nil_append]
      rw[<-e,List.getElem?_drop] at hj;exact hj)))
   (by rw[Ql Qc,List.length_drop,hcl];omega) (fun v hv=>by
     obtain⟨y,_,hy⟩:=List.mem_flatMap.1 hv
     exact Xa y v hy)
 obtain⟨Z1,hZ1⟩:∃Z1,Z1=splice cur.toList ((i+1)*21) ((xs.drop i).flatMap Qt):=⟨_,rfl⟩
 have hz1l:Z1.length=c*21:=by rw[hZ1,length_splice _ _ _ (by rw[Ql Qc,List.length_drop,hcl];omega),hcl]
 rw[<-hZ1] at hcp1;obtain⟨W1,hW1⟩:∃W1,W1=w.drew.setRow g Z1.toArray:=⟨_,rfl⟩
 rw[<-hW1] at hcp1;have hg2:W1.heap[g]?=some (.cells Z1.toArray 44 (0,0)):=by rw[hW1];exact setRow_heap _ _ _ _ _ _ hg1
 have hv2:BlkB W1 vb (Qa x.1 x.2) 44:=by rw[hW1];exact(setRow_other _ _ _ _ hne).trans hv
 have hcp2:∀ty dc,(Builtin.copy_ #[22,22] ty #[.slice (some ⟨g,i*21,none⟩) (xs.length+1-i) dc,.slice (some ⟨vb,0,none⟩) 1 1]).run Tryz.prog W1=.ok (goInt 1) (W1.setRow g (splice Z1 (i*21) (Qt x)).toArray):=fun ty dc=>
  Vc W1 _ _ ty 44 21 g (i*21) _ dc ⟨vb,0,none⟩ 1 1 1 Z1 44 (Qt x) Tryz.underlying22 hsz hg2 (by simp only[Nat.min_def];split<;>omega) rfl
   (fun j v hj=>by
     rw[Addr.add_lit,Nat.zero_add];exact hv2.cell j (by rw[<-ZaV,List.getElem?_toArray];exact hj))
   (by rw[hz1l,Qc];omega) (Xa x)
 have HOV:=jq (fun off lb cb=>Zf4 w vb g off lb cb x cur hv hgB (by omega) hne);have HC1:=jq hcp1;have HC2:=jq hcp2;have hc63:c<=9223372036854775807:=by unfold maxLen at hcm;omega
 have HRI:=jq (show YE base w (xs.length+1) (xs.take i++x::xs.drop i)=fun e w'=>∃A c,e=.returned (.slice A (xs.length+1) c)/\Own Qt 21 44 w' base (.slice A (xs.length+1) c) (xs.take i++x::xs.drop i)/\Below base w w' from rfl)
 have HEND:=jq (show Own Qt 21 44 (W1.setRow g (splice Z1 (i*21) (Qt x)).toArray) base (.slice (some ⟨g,0,none⟩) (xs.length+1) c) (xs.take i++x::xs.drop i)/\Below base w (W1.setRow g (splice Z1 (i*21) (Qt x)).toArray) by
  have hln:(xs.take i++x::xs.drop i).length=xs.length+1:=by rw[List.length_append,List.length_cons,List.length_take,List.length_drop];omega
  have hd7:((xs.drop i).flatMap Qt).length=(xs.length-i)*21:=by rw[Ql Qc,List.length_drop]
  refine⟨⟨Ql Qc _,.inr ⟨g,c,(splice Z1 (i*21) (Qt x)).toArray,by rw[hln],hbg,setRow_heap _ _ _ _ _ _ hg2,by rw[hln];exact hroom,hcm,by simp[];rw[length_splice _ _ _ (by rw[hz1l,Qc];omega),hz1l],?_⟩⟩,?_⟩
  ·rw[hln]
   show(splice Z1 (i*21) (Qt x)).take _=_
   refine Zfc Qc cur.toList xs x i (by omega) (by rw[hcl];omega) (fun j hj=> ?_) _ (by rw[length_splice _ _ _ (by rw[hz1l,Qc];omega),hz1l,hcl]) (fun j=> ?_)
   ·rw[<-htk,List.getElem?_take_of_lt (by omega)]
   ·rw[Xj _ _ _ (by rw[hz1l,Qc];omega),Qc]
    by_cases h1:j<i*21
    ·rw[if_pos h1,if_pos h1,hZ1,Xj _ _ _ (by rw[hd7,hcl];omega),if_pos (by omega)]
    ·rw[if_neg h1,if_neg h1]
     by_cases h2:j<i*21+21
     ·rw[if_pos h2,if_pos (by omega)]
     ·rw[if_neg h2,if_neg (by omega),hZ1,Xj _ _ _ (by rw[hd7,hcl];omega),if_neg (by omega),hd7]
      by_cases h3:j<(i+1)*21+(xs.length-i)*21
      ·rw[if_pos h3,if_pos (by omega)]
      ·rw[if_neg h3,if_neg (by omega)]
  ·rw[hW1];exact below_setRow (below_setRow (Below.refl _ w).drew hbg _) hbg _)
 generalize YE base w (xs.length+1) (xs.take i++x::xs.drop i)=post at*;generalize W1.setRow g (splice Z1 (i*21) (Qt x)).toArray=W2 at*;obtain⟨n,hn'⟩:∃n,n=xs.length:=⟨_,rfl⟩
 rw[<-hn'] at HC1 HC2 HRI HEND hi hroom hn ⊢;have hw1:IntKind.i64.wrap ((i:Int)+1)=(i:Int)+1:=by rw[IntKind.wrap_i64];omega
 have hb1:(0:Int)<=(i:Int)+1:=by omega
 have htn:((i:Int)+1).toNat=i+1:=by omega
 have hb2:¬(c=i+1):=by omega
 have hb3:(i:Int)<=(n:Int)+1:=by omega
 have hb4:¬(c=i):=by omega
 have hin:¬((i:Int)=(n:Int)):=by omega
 have hin2:i<=n:=by omega
 have HNX:=jq hn';clear hn';clear hcp1 hcp2 hW1 hg2 hv2 hz1l hZ1 hg hg1 hgB hfl hcl hcells hcs htk ho hA hxc hv hsz hcm;go_enter Tryz.func29,Tryz.ntmps29
 go_wp2_with (simp only[HOV.out])
 go_region_law (refine Zby rfl (.tmp 73) (.tmp 76) 22 22 rfl (.slice (some ⟨g,(i+1)*21,none⟩) (n-i) (c-(i+1))) (.slice (some ⟨g,i*21,none⟩) (n+1-i) (c-i)) (by simp[Act.eval,Act.put]) (by simp[Act.eval,Act.put]) (HC1.out 3 (c-(i+1)) (c-i)) ?_)
 have hc2:=HC2.out 3 (c-i);go_wp2_with fail
 all_goals
  first|go_ret|skip
  rw[HRI.out];exact⟨_,_,rfl,HEND.out.1,HEND.out.2⟩
theorem Zf6(g n c i vb base:Nat)(xs:List Fx)(x:Fx)(w:World)(ho:Own Qt 21 44 w base (.slice (some ⟨g,0,none⟩) n c) xs)(hv:BlkB w vb (Qa x.1 x.2) 44)(hi:i<n)(hroom:c<n+1)(hn:n<=1000000)(hbs:base<=w.1.size):
 Calls Tryz.prog 29 #[.slice (some ⟨g,0,none⟩) n c,.int .i64 i,.slice (some ⟨vb,0,none⟩) 1 1] w (YE base w (n+1) (xs.take i++x::xs.drop i)):=by
 obtain⟨hnx,hxc,hcm,hA⟩:=ho.facts
 have ho2:=ho.2
 rcases ho2 with ⟨hv0,_⟩|⟨g',cap',cur,hv1,hbg,hg,hnc,_,hcs,htk⟩
 ·cases hv0
 injection hv1 with a1 a2 a3;injection a1 with a1;injection a1 with a1 _;subst a1;subst a3
 subst hnx;have hsz:(Tryz.prog.info? 44).map (·.size)=some 21:=by kernel_rfl
 obtain⟨i0,z0,hu0,hi0,hz0,hs0,hb0,hzs0,_,_⟩:=QS
 have hgB:BlkB w g cur 44:=hg;have hfl:(xs.flatMap Qt).length=xs.length*21:=Ql Qc xs
 have hcells:∀(j:Nat) (v:Value),(xs.flatMap Qt)[j]?=some v->cur[j]?=some v:=by
  intro j v hj;rw[<-htk,List.getElem?_take] at hj
  split at hj
  ·simpa using hj
  ·cases hj
 have hft:(xs.take i).flatMap Qt=(xs.flatMap Qt).take (i*21):=VA Qc xs i
 have hold:(Builtin.firstCells i0.size i (.slice (some ⟨g,0,none⟩) i c)).run Tryz.prog w.drew=.ok ((xs.take i).flatMap Qt).toArray w.drew:=by
  rw[hs0]
  exact run_firstCells_some w.drew 21 i ⟨g,0,none⟩ i c _ (by rw[Ql Qc,List.length_take];rw[Nat.min_eq_left (by omega)]) (fun j v hj=>by
   rw[Addr.add_lit,Nat.zero_add]
   show w.cell? ⟨g,j,none⟩=some v
   rw[hft,List.getElem?_take] at hj
   split at hj
   ·exact hgB.cell j (hcells j v hj)
   ·cases hj)
 have hkk:(xs.length:Int)+1-(i:Int)=((xs.length+1-i:Nat):Int):=by omega
 have hik:i+(xs.length+1-i)=xs.length+1:=by omega
 have hrz:=fun ty=>Lib.run_append_grow_zeros (P:=Tryz.prog) w 22 3 ty 44 i0 z0 .i64 .i64 Tryz.underlying22 Tryz.underlying3 hi0 hz0 (some ⟨g,0,none⟩) i c _ hold (xs.length+1-i) (by omega) (by omega) (by omega) (by omega) (by rw[hb0];omega) (by rw[hb0,hik];exact growslice_fits hroom (by omega))
 rw[hik] at hrz;obtain⟨G,hG⟩:∃G,G=grownCap w (xs.length+1) c 44:=⟨_,rfl⟩
 have hGn:xs.length+1<=G:=by rw[hG];exact grownCap_ge w _ _ _
 have hGm:G<=maxLen:=by rw[hG];exact grownCap_le_maxLen w _ _ _ (by unfold maxLen;omega)
 rw[<-hG] at hrz;obtain⟨R,hR⟩:∃R:Array Value,R=((xs.take i).flatMap Qt).toArray++Builtin.zeroCells z0.cells (xs.length+1-i)++Builtin.zeroCells z0.cells (G-(xs.length+1)):=⟨_,rfl⟩
 rw[<-hR] at hrz;have hzl:∀k,(Builtin.zeroCells z0.cells k).size=k*21:=fun k=>by simp[Builtin.zeroCells,hzs0]
 have hRs:R.size=G*21:=by
  rw[hR,Array.size_append,Array.size_append,hzl,hzl];simp only[List.size_toArray];rw[Ql Qc,List.length_take,Nat.min_eq_left (by omega)];omega
 have hRpre:∀j,j<i*21->R.toList[j]?=(xs.flatMap Qt)[j]?:=by
  intro j hj;rw[hR];simp only[Array.toList_append];rw[List.getElem?_append_left (by rw[List.length_append,Ql Qc,List.length_take];omega),List.getElem?_append_left (by rw[Ql Qc,List.length_take];omega),hft,List.getElem?_take_of_lt hj]
 clear hG hR hold;obtain⟨W1,hW1⟩:∃W1,W1=w.drew.alloc (.cells R 44):=⟨_,rfl⟩
 rw[<-hW1] at hrz;have hgw:g<w.1.size:=hgB.lt;have hvw:vb<w.1.size:=hv.lt;have hp1:W1.heap[w.1.size]?=some (.cells R.toList.toArray 44 (0,0)):=by rw[hW1,Array.toArray_toList];exact heap_alloc_new w.drew _
 have hg1:BlkB W1 g cur 44:=by rw[hW1];exact BlkB.alloc (w:=w.drew) hgB _
 have hv1:BlkB W1 vb (Qa x.1 x.2) 44:=by rw[hW1];exact BlkB.alloc (w:=w.drew) hv _
 have hrl:R.toList.length=G*21:=by simpa using hRs
 have hcp1:∀ty dc,(Builtin.copy_ #[22,22] ty #[.slice (some ⟨w.1.size,i*21,none⟩) (xs.length+1-i) dc,.slice (some ⟨vb,0,none⟩) 1 1]).run Tryz.prog W1=.ok (goInt 1) (W1.setRow w.1.size (splice R.toList (i*21) (Qt x)).toArray):=fun ty dc=>
  Vc W1 _ _ ty 44 21 w.1.size (i*21) _ dc ⟨vb,0,none⟩ 1 1 1 R.toList 44 (Qt x) Tryz.underlying22 hsz hp1 (by simp only[Nat.min_def];split<;>omega) rfl
   (fun j v hj=>by
     rw[Addr.add_lit,Nat.zero_add];exact hv1.cell j (by rw[<-ZaV,List.getElem?_toArray];exact hj))
   (by rw[hrl,Qc];omega) (Xa x)
 obtain⟨Z1,hZ1⟩:∃Z1,Z1=splice R.toList (i*21) (Qt x):=⟨_,rfl⟩
 have hz1l:Z1.length=G*21:=by rw[hZ1,length_splice _ _ _ (by rw[hrl,Qc];omega),hrl]
 rw[<-hZ1] at hcp1;obtain⟨W2,hW2⟩:∃W2,W2=W1.setRow w.1.size Z1.toArray:=⟨_,rfl⟩
 rw[<-hW2] at hcp1;have hp2:W2.drew.heap[w.1.size]?=some (.cells Z1.toArray 44 (0,0)):=by rw[hW2];exact setRow_heap _ _ _ _ _ _ hp1
 have hg2:BlkB W2.drew g cur 44:=by rw[hW2];exact(setRow_other _ _ _ _ (by omega)).trans hg1
 have hd7:((xs.drop i).flatMap Qt).length=(xs.length-i)*21:=by rw[Ql Qc,List.length_drop]
 have hcp2:∀ty dc sc,(Builtin.copy_ #[22,22] ty #[.slice (some ⟨w.1.size,(i+1)*21,none⟩) (xs.length-i) dc,.slice (some ⟨g,i*21,none⟩) (xs.length-i) sc]).run Tryz.prog W2.drew=.ok (goInt (xs.length-i:Nat)) (W2.drew.setRow w.1.size (splice Z1 ((i+1)*21) ((xs.drop i).flatMap Qt)).toArray):=fun ty dc sc=>
  Vc W2.drew _ _ ty 44 21 w.1.size ((i+1)*21) _ dc ⟨g,i*21,none⟩ _ sc (xs.length-i) Z1 44 ((xs.drop i).flatMap Qt) Tryz.underlying22 hsz hp2 (by simp) hd7
   (fun j v hj=>by
     rw[Addr.add_lit]
     show W2.drew.cell? ⟨g,i*21+j,none⟩=some v
     exact hg2.cell (i*21+j) (hcells (i*21+j) v (by
      have e:(xs.flatMap Qt).drop (i*21)=(xs.drop i).flatMap Qt:=by
       conv=>lhs;rw[<-List.take_append_drop i xs,List.flatMap_append]
       rw[List.drop_append_of_le_length (by rw[Ql Qc,List.length_take];omega),List.drop_eq_nil_of_le (by rw[Ql Qc,List.length_take];omega),List.nil_append]
      rw[<-e,List.getElem?_drop] at hj;exact hj)))
   (by rw[hd7,hz1l];omega) (fun v hv=>by
     obtain⟨y,_,hy⟩:=List.mem_flatMap.1 hv
     exact Xa y v hy)
 have HRI:=jq (show YE base w (xs.length+1) (xs.take i++x::xs.drop i)=fun e w'=>∃A c,e=.returned (.slice A (xs.length+1) c)/\Own Qt 21 44 w' base (.slice A (xs.length+1) c) (xs.take i++x::xs.drop i)/\Below base w w' from rfl)
 have HEND:=jq (show Own Qt 21 44 (W2.drew.setRow w.1.size (splice Z1 ((i+1)*21) ((xs.drop i).flatMap Qt)).toArray) base (.slice (some ⟨w.1.size,0,none⟩) (xs.length+1) G) (xs.take i++x::xs.drop i)/\Below base w (W2.drew.setRow w.1.size (splice Z1 ((i+1)*21) ((xs.drop i).flatMap Qt)).toArray) by
  have hln:(xs.take i++x::xs.drop i).length=xs.length+1:=by rw[List.length_append,List.length_cons,List.length_take,List.length_drop];omega
  refine⟨⟨Ql Qc _,.inr ⟨w.1.size,G,(splice Z1 ((i+1)*21) ((xs.drop i).flatMap Qt)).toArray,by rw[hln],hbs,setRow_heap _ _ _ _ _ _ hp2,by rw[hln];exact hGn,hGm,by rw[List.size_toArray,length_splice _ _ _ (by rw[hz1l,hd7];omega),hz1l],?_⟩⟩,?_⟩
  ·rw[hln]
   show(splice Z1 ((i+1)*21) ((xs.drop i).flatMap Qt)).take _=_
   refine Zfc Qc R.toList xs x i (by omega) (by rw[hrl];omega) hRpre _ (by rw[length_splice _ _ _ (by rw[hz1l,hd7];omega),hz1l,hrl]) (fun j=> ?_);rw[Xj _ _ _ (by rw[hz1l,hd7];omega),hd7]
   by_cases h1:j<i*21
   ·rw[if_pos h1,if_pos (by omega),hZ1,Xj _ _ _ (by rw[hrl,Qc];omega),if_pos h1]
   ·rw[if_neg h1]
    by_cases h2:j<(i+1)*21
    ·rw[if_pos h2,if_pos h2,hZ1,Xj _ _ _ (by rw[hrl,Qc];omega),if_neg h1,Qc,if_pos (by omega)]
    ·rw[if_neg h2,if_neg h2]
     by_cases h3:j<(xs.length+1)*21
     ·rw[if_pos h3,if_pos (by omega)]
     ·rw[if_neg h3,if_neg (by omega),hZ1,Xj _ _ _ (by rw[hrl,Qc];omega),if_neg h1,Qc,if_neg (by omega)]
  ·rw[hW2,hW1];exact below_setRow (below_setRow (((Below.refl base w).drew.alloc (by exact hbs) _)) hbs _).drew hbs _)
 generalize YE base w (xs.length+1) (xs.take i++x::xs.drop i)=post at*;generalize W2.drew.setRow w.1.size (splice Z1 ((i+1)*21) ((xs.drop i).flatMap Qt)).toArray=W3 at*;rw[hkk.symm] at hrz;have HA1:=jq hrz;have HC1:=jq hcp1;have HC2:=jq hcp2;clear hrz hcp1 hcp2 hRpre hRs hrl hzl;obtain⟨n,hn'⟩:∃n,n=xs.length:=⟨_,rfl⟩
 rw[<-hn'] at HA1 HC1 HC2 HRI HEND hi hroom hn hGn ⊢;have HNX:=jq hn';clear hn';have hw1:IntKind.i64.wrap ((i:Int)+1)=(i:Int)+1:=by rw[IntKind.wrap_i64];omega
 have hb1:(0:Int)<=(i:Int)+1:=by omega
 have htn:((i:Int)+1).toNat=i+1:=by omega
 have hG63:G<=9223372036854775807:=by unfold maxLen at hGm;omega
 have hc63:c<=9223372036854775807:=by omega
 have hb2:¬(G=i+1):=by omega
 have hb3:(i:Int)<=(n:Int):=by omega
 have hb4:¬(G=i):=by omega
 have hb5:¬(c=i):=by have:=HNX.out;omega
 have hb6:i<=c:=by have:=HNX.out;omega
 have hb7:n<=c:=by have:=HNX.out;omega
 have hin:¬((i:Int)=(n:Int)):=by omega
 have hin2:i<=n:=by omega
 clear hW1 hW2 hp1 hp2 hg1 hg2 hv1 hz1l hZ1 hg hgB hfl hcells hcs htk ho hA hxc hv hsz hcm hkk hik hd7 hft hGm hu0 hi0 hz0 hs0 hb0 hzs0;have hc1:=HC1.out 3 (G-i);go_enter Tryz.func29,Tryz.ntmps29
 go_wp2_with (at_builtin;refine Lib.wpList_append_run _ rfl _ _ _ _ rfl _ _ rfl rfl _ _ (HA1.out 22) ?_)
 go_region_law (refine Zby rfl (.tmp 50) (.tmp 53) 22 22 rfl (.slice (some ⟨w.1.size,(i+1)*21,none⟩) (n-i) (G-(i+1))) (.slice (some ⟨g,i*21,none⟩) (n-i) (c-i)) (by simp[Act.eval,Act.put]) (by simp[Act.eval,Act.put]) (HC2.out 3 (G-(i+1)) (c-i)) ?_)
 go_wp2_with fail
 all_goals
  first|go_ret|skip
  rw[HRI.out];exact⟨_,_,rfl,HEND.out.1,HEND.out.2⟩
end
section
attribute [local go_sem] Oper.semAt_some
theorem Zex(m:Nat)(w:World)(hm:m<=100000):Calls Tryz.prog 74 #[.slice none 0 0,.int .i64 m] w (RetOwn Qt 21 44 w.1.size w ([]:List Fx)):=by
 by_cases h0:m=0
 ·subst h0;refine(Any8.slices_Grow_room Tryz.growFt none 0 0 0 w (Nat.le_refl _) (by omega) (by omega) (Nat.le_refl _)).mono ?_;rintro e w' ⟨rfl,rfl⟩;exact RetOwn.mk rfl Own.nil (Below.refl _ _)
 obtain⟨i0,z0,hu0,hi0,hz0,hs0,hb0,hzs0,_,_⟩:=QS
 refine(Any8.slices_Grow_grow Tryz.growFt i0 z0 hi0 hz0 (by omega) none 0 0 m [] w (Nat.le_refl _) (by omega) (by rw[hb0];omega) (by omega) (by simp) (fun _=>rfl) (fun a h=>by cases h)).mono ?_;rintro e w' ⟨rfl,rfl⟩;rw[show Tryz.growFt_ren.t 25=44 from rfl,Nat.zero_add];have hGn:m<=grownCap w m 0 44:=grownCap_ge w _ _ _;have hGm:grownCap w m 0 44<=maxLen:=grownCap_le_maxLen w _ _ _ (by unfold maxLen;omega);refine⟨_,_,rfl,⟨by simp,.inr ⟨w.1.size,_,_,rfl,Nat.le_refl _,heap_alloc_new w.drew _,Nat.zero_le _,hGm,?_,by simp⟩⟩,(Below.refl _ w).drew.alloc (Nat.le_refl _) _⟩;simp only[Array.size_append,List.size_toArray,List.length_nil,size_zeroCells,hzs0];rw[Nat.zero_add,<-Nat.add_mul]
 congr 1
 omega
def Zaj(a b:Nat):Nat->Nat
 |0=>0
 |1=>a
 |_=>a+b
def ZkI(xs ys:List Fx):Nat->List Fx
 |0=>[]
 |1=>xs
 |_=>xs++ys
theorem ZcR{T:TypeId}(A1 A2:Option Addr)(c1 c2 b:Nat)(xs ys:List Fx)(w:World)(hb:BlkB w b #[.slice A1 xs.length c1,.slice A2 ys.length c2] T)(h1:Sl Qt 21 w w.1.size A1 xs.length xs)(h2:Sl Qt 21 w w.1.size A2 ys.length ys)(hn1:xs.length<=1000)(hn2:ys.length<=1000):
 Calls Tryz.prog 40 #[.slice (some ⟨b,0,none⟩) 2 2] w (RetOwn Qt 21 44 w.1.size w (xs++ys)):=by
 have HB:=jq hb;have H1:=jq h1;have H2:=jq h2;have x0:=hb.cell 0 rfl;have x1:=hb.cell 1 rfl;clear hb h1 h2;generalize hpo:RetOwn Qt 21 44 w.1.size w (xs++ys)=post;have HPO:=jq hpo;clear hpo;have s0:wrap64 (((Zaj xs.length ys.length 0:Nat):Int)+(xs.length:Int))=((Zaj xs.length ys.length 1:Nat):Int):=by show wrap64 (((0:Nat):Int)+(xs.length:Int))=(xs.length:Int);unfold wrap64;omega
 have s1:wrap64 (((Zaj xs.length ys.length 1:Nat):Int)+(ys.length:Int))=((Zaj xs.length ys.length 2:Nat):Int):=by show wrap64 ((xs.length:Int)+(ys.length:Int))=((xs.length+ys.length:Nat):Int);unfold wrap64;omega
 have t1:¬((Zaj xs.length ys.length 1:Nat):Int)<0:=by omega
 have t2:¬((Zaj xs.length ys.length 2:Nat):Int)<0:=by omega
 have HCN:=jq (show Zaj xs.length ys.length 2=xs.length+ys.length from rfl);go_enter Tryz.func40,Tryz.ntmps40
 go_wp2_with fail
 go_loopw [3,5,11] (fun s _ i wr=>∃k:Nat,k<=2/\i=.int .i64 k/\s=.int .i64 (Zaj xs.length ys.length k:Nat)/\wr=w) (fun _ _ i _=>2-(intOf i).toNat)
 case atStart=>exact⟨0,by omega,rfl,rfl,rfl⟩
 case round=>
  obtain⟨k,hk,rfl,rfl,rfl⟩:=hrel
  by_cases hlt:k<2
  ·rcases(show k=0\/k=1 by omega) with rfl|rfl
   ·go_wp2_with fail
    exact⟨⟨1,by omega,rfl,by rw[s0],trivial⟩,by simp[intOf]⟩
   ·go_wp2_with fail
    exact⟨⟨2,by omega,rfl,by rw[s1],trivial⟩,by simp[intOf]⟩
  ·obtain rfl:k=2:=by omega
   clear s0 s1 t1 t2;generalize wr=W0 at*;go_wp2_with fail
   rw[HCN.out];refine(Zex (xs.length+ys.length) W0 (by omega)).mono ?_;rintro e w1 ⟨A3,c3,rfl,ho3,hb3⟩;have HO3:=jq ho3;have HB3:=jq hb3;clear ho3 hb3 x0 x1;rw[List.length_nil];go_wp2_with fail
   go_loopw [6,8,27] (fun r _ i wq=>∃(k:Nat) (A:Option Addr) (c:Nat),k<=2/\i=.int .i64 k/\r=.slice A (Zaj xs.length ys.length k) c/\Hid (Own Qt 21 44 wq W0.1.size (.slice A (Zaj xs.length ys.length k) c) (ZkI xs ys k))/\Hid (Below W0.1.size W0 wq)) (fun _ _ i _=>2-(intOf i).toNat)
   case atStart=>exact⟨0,A3,c3,by omega,rfl,rfl,HO3,HB3⟩
   case round=>
    clear HO3 HB3;obtain⟨k,A,c,hk,rfl,rfl,HO,HBQ⟩:=hrel
    have HBK:=jq (HB.out.here HBQ.out)
    have HOB:=jq (show ∀g,(Value.slice A (Zaj xs.length ys.length k) c).ownBlock=some g->W0.1.size<=g from fun g e=>by
     obtain⟨_,_,_,_,_,_,h5⟩:=HO.out.form
     exact(h5 g e).2.1)
    by_cases hlt:k<2
    ·rcases(show k=0\/k=1 by omega) with rfl|rfl
     ·have y0:=HBK.out.cell 0 rfl;go_wp2_with (at_builtin;refine QK _ rfl (.tmp 31) (.tmp 32) _ rfl QS Qc Xa (base:=W0.1.size) (.slice A (Zaj xs.length ys.length 0) c) [] rfl HO.out _ _ xs.length c1 xs rfl (H1.out.here HBQ.out) (by simp;omega) HBQ.out.size ?_;intro A4 c4 w4 ho4 hg4 _;have HO4:=jq ho4;have HB4:=jq (HBQ.out.trans (Qo hg4 HBQ.out.size (Nat.le_refl _) HOB.out));clear ho4 hg4)
      go_roundw
      case rel=>exact⟨1,A4,c4,by omega,rfl,rfl,(by have h:=HO4.out;rw[List.length_nil,Nat.zero_add] at h;exact h),HB4⟩
      case measure=>simp[intOf]
     ·have y0:=HBK.out.cell 1 rfl;go_wp2_with (at_builtin;refine QK _ rfl (.tmp 31) (.tmp 32) _ rfl QS Qc Xa (base:=W0.1.size) (.slice A (Zaj xs.length ys.length 1) c) xs rfl HO.out _ _ ys.length c2 ys rfl (H2.out.here HBQ.out) (by omega) HBQ.out.size ?_;intro A4 c4 w4 ho4 hg4 _;have HO4:=jq ho4;have HB4:=jq (HBQ.out.trans (Qo hg4 HBQ.out.size (Nat.le_refl _) HOB.out));clear ho4 hg4)
      go_roundw
      case rel=>exact⟨2,A4,c4,by omega,rfl,rfl,HO4,HB4⟩
      case measure=>simp[intOf]
    ·obtain rfl:k=2:=by omega
     go_wp2_with fail
     first|go_ret|skip
     rw[<-HPO.out];exact⟨A,c,by rw[List.length_append];rfl,(by have h:=HO.out;rw[HCN.out] at h;rw[List.length_append];exact h),HBQ.out⟩
end
end Go.Proofs.YtbcnkcldlealjaaGreatDoor
