/- Vst. -/
import Derived.Test.YtbcnkcldlealjaaGreatDoorQGVb35
import Derived.Test.YtbcnkcldlealjaaGreatDoorQGVb40
import Derived.Test.YtbcnkcldlealjaaGreatDoorSht
import Derived.Sort.OwnSorted
namespace Go.Proofs.YtbcnkcldlealjaaGreatDoor
section
open Go.RowKit Go.Shelf Go.Sort
theorem Zfa(xs:List (List UInt8)):xs.flatMap S1=xs.map encStr:=by
 induction xs with
 |nil=>rfl
 |cons a xs ih=>rw[List.flatMap_cons,ih];rfl
theorem Zbv{w:World}{base g n c:Nat}{e:TypeId}{xs:List (List UInt8)}(h:Own S1 1 e w base (.slice (some ⟨g,0,none⟩) n c) xs):Holds encStr w g 0 xs.toArray/\
 ∀(q:Nat) (os:Array Obj) (ts:List (List UInt8)),ts.length=xs.length->Own S1 1 e (grow (putRow encStr (Sort.ahead w q) g 0 ts.toArray) os) base (.slice (some ⟨g,0,none⟩) n c) ts:=by
 have hn:=h.facts.1;subst hn
 rcases h.2 with ⟨h0,_⟩|⟨g',cap,cur,hv,hb,hg,hnc,hcm,hcs,ht⟩
 ·cases h0
 ·injection hv with a1 a2 a3;injection a1 with a1;injection a1 with a1;subst a1;subst a3
  rw[Zfa,Nat.mul_one] at ht;refine⟨holds_of_block hg ht,fun q os ts hl=> ?_⟩
  show World.ownsRow _ _ _ _ _ ts.length (ts.flatMap S1)
  rw[Zfa,hl];exact ownsRow_sorted hl hb hg hnc hcm hcs
theorem ZdC(base:Nat)(A:Option Addr)(c:Nat)(xs:List (List UInt8))(w:World)(ho:Own S1 1 9 w base (.slice A xs.length c) xs)(hl:xs.length<=1000000000):
 Calls Tryz.prog 52 #[.slice A xs.length c] w fun e w'=>e=.returned (.tuple #[])/\Own S1 1 9 w' base (.slice A (XA xs).length c) (XA xs)/\w.grownBy w' (Value.slice A xs.length c).ownBlock:=by
 obtain⟨_,_,_,⟨rfl,rfl,rfl⟩|⟨g,rfl,hg1,hg2⟩⟩:=ho.facts
 ·refine(AnyM.slices_Sort_string_none Tryz.sortStr none 0 w).mono ?_;rintro e w' ⟨rfl,rfl⟩;exact⟨rfl,by rw[show XA []=[] by simp[XA]];exact ho,World.grownBy.refl _ _⟩
 ·obtain⟨hH,hS⟩:=Zbv ho
  refine(AnyM.slices_Sort_string Tryz.sortStr g 0 c xs w hH hg2 (by omega)).mono ?_;rintro e w' ⟨rfl,n,os,rfl⟩;refine⟨rfl,?_,grownBy_sorted _⟩;rw[VN];exact hS n os (XA xs) (VN xs)
theorem ZdD(base:Nat)(A:Option Addr)(c:Nat)(zs:List (List UInt8))(w:World)(ho:Own S1 1 9 w base (.slice A zs.length c) zs)(hl:zs.length<=1000000000):
 Calls Tryz.prog 53 #[.slice A zs.length c] w fun e w'=>e=.returned (.slice A (Lib.compact zs).length c)/\Own S1 1 9 w' base (.slice A (Lib.compact zs).length c) (Lib.compact zs)/\w.grownBy w' (Value.slice A zs.length c).ownBlock:=by
 obtain⟨_,hc,_,⟨rfl,rfl,rfl⟩|⟨g,rfl,hg1,hg2⟩⟩:=ho.facts
 ·refine(AnyG.slices_Compact_string_empty Tryz.compactStr none 0 w).mono ?_;rintro e w' ⟨rfl,rfl⟩;have h0:Lib.compact ([]:List (List UInt8))=[]:=by simp[Lib.compact,Lib.compactUpTo]
  rw[h0];exact⟨rfl,ho,World.grownBy.refl _ _⟩
 ·obtain⟨hH,hS⟩:=Zbv ho
  refine(AnyG.slices_Compact_string Tryz.compactStr g 0 c zs w hH (by omega) hc).mono ?_;rintro e w' ⟨rfl,q,rfl⟩;have hcl:=ZcM zs;have hgr:=grownBy_sorted (w:=w) (g:=g) (n:=q) (os:=#[]) (Lib.compact zs++List.replicate (zs.length-(Lib.compact zs).length) []).toArray;have ho2:=hS q #[] (Lib.compact zs++List.replicate (zs.length-(Lib.compact zs).length) []) (by rw[List.length_append,List.length_replicate];omega);rw[grow_empty] at hgr ho2;have ho3:=ho2.shrink JU (m:=(Lib.compact zs).length) (by rw[List.length_append];omega);rw[List.take_left] at ho3;exact⟨rfl,ho3,hgr⟩
end
end Go.Proofs.YtbcnkcldlealjaaGreatDoor
