/- Vso. -/
import Derived.Test.YtbcnkcldlealjaaGreatDoorQGVb32
import Derived.Test.YtbcnkcldlealjaaGreatDoorQGVb21
import Derived.Test.YtbcnkcldlealjaaGreatDoorShs
import Derived.Shelf.SlSortCmp.NoneTotal
set_option maxRecDepth 20000
namespace Go.Proofs.YtbcnkcldlealjaaGreatDoor
section
open Go.RowKit Go.Shelf Go.Sort
abbrev Fk:={x:Fx//Jh x.1.kind}
instance:Inhabited Fk:=⟨⟨(⟨[],0,false,0,0,[],[],[],[],[],[],[],⟨[],[]⟩,⟨[],[]⟩,⟨[],[]⟩,[],[],0⟩,⟨none,0,0,none,0,0⟩),by unfold Jh;exact⟨by decide,by decide⟩⟩⟩
def fkE(x:Fk):List Value:=Qt x.1
def fkC(x y:Fk):Int:=Xy x.1.1 y.1.1
theorem fkL(x y:Fk):ltOf fkC x y=true↔JD x.1.1 y.1.1:=by unfold ltOf fkC;rw[decide_eq_true_eq,Xi]
theorem Zj1{f h:Fct}(k:JD f h)(g:Fct):JD f g\/JD g h:=by
 unfold JD at*
 rcases k with a|⟨a,b|⟨b,c⟩⟩
 ·by_cases h1:f.day<g.day
  ·exact .inl (.inl h1)
  ·exact .inr (.inl (by omega))
 ·rcases Int.lt_trichotomy f.day g.day with h1|h1|h1
  ·exact .inl (.inl h1)
  ·by_cases h2:QZ f.kind<QZ g.kind
   ·exact .inl (.inr ⟨h1,.inl h2⟩)
   ·exact .inr (.inr ⟨by omega,.inl (by omega)⟩)
  ·exact .inr (.inl (by omega))
 ·rcases Int.lt_trichotomy f.day g.day with h1|h1|h1
  ·exact .inl (.inl h1)
  ·rcases Int.lt_trichotomy (QZ f.kind) (QZ g.kind) with h2|h2|h2
   ·exact .inl (.inr ⟨h1,.inl h2⟩)
   ·rcases VH f.key g.key with h3|h3|h3
    ·exact .inl (.inr ⟨h1,.inr ⟨h2,h3⟩⟩)
    ·exact .inr (.inr ⟨by omega,.inr ⟨by omega,h3▸c⟩⟩)
    ·exact .inr (.inr ⟨by omega,.inr ⟨by omega,List.lt_trans h3 c⟩⟩)
   ·exact .inr (.inr ⟨by omega,.inl (by omega)⟩)
  ·exact .inr (.inl (by omega))
theorem fkO:SWO (ltOf fkC) where
 irrefl x:=by
  cases h:ltOf fkC x x with
  |false=>rfl
  |true=>exact absurd ((fkL x x).1 h) (ZaJ _)
 trans x y z h1 h2:=(fkL x z).2 (XJ ((fkL x y).1 h1) ((fkL y z).1 h2))
 ntrans x y z h1 h2:=by
  cases h:ltOf fkC x z with
  |false=>rfl
  |true=>
   rcases Zj1 ((fkL x z).1 h) y.1.1 with h3|h3
   ·rw[(fkL x y).2 h3] at h1;cases h1
   ·rw[(fkL y z).2 h3] at h2;cases h2
section
variable {w w0 W W':World} {p c n:Nat} {T:TypeId} {xs:List Fx} {base:Nat}
theorem ZaO{d:Array Fk}(hd:d.toList.map (·.1)=xs):d.size=xs.length:=by rw[<-hd,List.length_map,Array.length_toList]
theorem Ze8{d:Array Fk}(hd:d.toList.map (·.1)=xs){i:Nat}(hi:i<d.size):xs[i]?=some (d[i]!).1:=by
 rw[<-hd,List.getElem?_map,Array.getElem?_toList,Array.getElem?_eq_getElem hi,getElem!_pos d i hi];rfl
theorem ZhD{d:Array Fk}(hd:d.toList.map (·.1)=xs)(h:Own Qt 21 T W base (.slice (some ⟨p,0,none⟩) xs.length c) xs):HoldsK fkE 21 W p 0 d:=by
 intro j hj;rw[size_flatK] at hj;have hi:j/21<d.size:=by omega
 have hx:=Ze8 hd hi;obtain⟨b,off,hA,_,hc⟩:=(h.sl Qc).2 (by rw[<-ZaO hd];omega)
 injection hA with hA;injection hA with h1 h2;subst h1;subst h2
 have hl:(Qt (d[j/21]!).1)[j%21]?=some ((fkE d[j/21]!)[j%21]!):=by
  have hlt:j%21<(fkE d[j/21]!).length:=by show j%21<(Qt _).length;rw[Qc];omega
  rw[getElem!_pos (fkE _) _ hlt];exact List.getElem?_eq_getElem hlt
 refine⟨?_,h.frozen _⟩;have:=hc (j/21) _ hx (j%21) _ hl
 rw[get_flatK _ _ _ _ hj,show(0:Nat)+j=0+j/21*21+j%21 by omega];exact this
theorem Zbo(d:Array Fk)(m:Nat)(os:Array Obj):W.grownBy (sortWorldK fkE 21 W p 0 m d os) (some p):=by
 refine⟨rfl,rfl,rfl,by simp[sortWorldK,putRowK],fun k hk hne=> ?_⟩;unfold sortWorldK;rw[heap_grow_old _ _ (by simpa[putRowK] using hk)];have:p≠k:=fun e=>hne (by rw[e])
 simp[putRowK,putRow,mapBlock,Sort.ahead,Array.getElem?_modify,this]
theorem Zj2{d d':Array Fk}{m:Nat}{os:Array Obj}(hs:d'.size=d.size)(hd:d.toList.map (·.1)=xs)(h:Own Qt 21 T W base (.slice (some ⟨p,0,none⟩) xs.length c) xs):
 Own Qt 21 T (sortWorldK fkE 21 W p 0 m d' os) base (.slice (some ⟨p,0,none⟩) xs.length c) (d'.toList.map (·.1)):=by
 have hl:(d'.toList.map (·.1)).length=xs.length:=by rw[List.length_map,Array.length_toList,hs,ZaO hd]
 refine⟨by rw[Ql Qc],?_⟩
 rcases h.2 with ⟨h0,_⟩|⟨g',cap,cur,hv,hb,hg,hnc,hcm,hcs,ht⟩
 ·cases h0
 ·injection hv with a1 a2 a3;injection a1 with a1;injection a1 with a1;subst a1;subst a3
  have hlen:xs.length*21<=cur.size:=by
   have h1:=congrArg List.length ht;rw[List.length_take,Ql Qc,Array.length_toList] at h1;omega
  refine .inr ⟨p,c,putCells id 0 (flatK fkE 21 d') cur,by rw[hl],hb,?_,by omega,hcm,by rw[<-hcs];simp[putCells],?_⟩
  ·unfold sortWorldK;have hlt:p<W.1.size:=(Array.getElem?_eq_some_iff.1 hg).1;rw[heap_grow_old _ _ (by simpa[putRowK] using hlt)];simp only[putRowK,putRow,mapBlock,Sort.ahead,Array.getElem?_modify,hg,onCells,if_pos,Option.map_some]
  ·rw[hl];refine List.ext_getElem? fun t=> ?_
   rw[List.getElem?_take]
   split
   ·rename_i ht'
    have hds:d'.size=xs.length:=by rw[hs,ZaO hd]
    have hi:t/21<d'.size:=by omega
    have hx:=Ze8 (xs:=d'.toList.map (·.1)) (d:=d') rfl hi
    have hlk:(Qt (d'[t/21]!).1)[t%21]?=some ((fkE d'[t/21]!)[t%21]!):=by
     have hlt:t%21<(fkE d'[t/21]!).length:=by show t%21<(Qt _).length;rw[Qc];omega
     rw[getElem!_pos (fkE _) _ hlt];exact List.getElem?_eq_getElem hlt
    have h3:=YF Qc _ (t/21) (t%21) _ _ hx hlk;rw[show t/21*21+t%21=t by omega] at h3;rw[h3,Array.getElem?_toList];simp only[putCells,Array.getElem?_mapIdx];rw[Array.getElem?_eq_getElem (by omega),Option.map_some,if_pos ⟨Nat.zero_le _,by rw[size_flatK];omega⟩,Nat.sub_zero,get_flatK _ _ _ _ (by omega)];rfl
   ·rename_i ht'
    rw[List.getElem?_eq_none];rw[Ql Qc,hl];omega
end
theorem ZbJ{w w':World}{B p:Nat}(h:w.grownBy w' (some p))(hB:B<=p)(hs:B<=w.1.size):Below B w w':=
 ⟨h.os,h.tape,h.output,h.size,fun k hk=>h.block k (by omega) (fun e=>by injection e with e;omega)⟩
theorem Zem(p c:Nat)(xs:List Fx)(w0 W:World)(hp:Env w0)(hb:Below w0.1.size w0 W)(hpl:w0.1.size<=p)(hown:Own Qt 21 44 W w0.1.size (.slice (some ⟨p,0,none⟩) xs.length c) xs)(hk:∀x∈xs,Jh x.1.kind)(hn:xs.length<=100000):
 Calls Tryz.prog 45 #[.slice (some ⟨p,0,none⟩) xs.length c,.func (.func 46) #[] #[]] W fun e w'=>e=.returned (.tuple #[])/\W.grownBy w' (some p)/\
  ∃ys:List Fx,ys.Perm xs/\(∀(i j:Nat) (x y:Fx),i<j->ys[i]?=some x->ys[j]?=some y->¬JD y.1 x.1)/\Own Qt 21 44 w' w0.1.size (.slice (some ⟨p,0,none⟩) ys.length c) ys:=by
 obtain⟨d,hd⟩:∃d:Array Fk,d.toList.map (·.1)=xs:=⟨(xs.attach.map fun x=>⟨x.1,hk x.1 x.2⟩).toArray,by
  rw[List.map_map];exact List.attach_map_subtype_val xs⟩
 have hsz:=ZaO hd
 have hlt:p<W.1.size:=by
  obtain⟨_,_,_,h|⟨g,hA,_,hg⟩⟩:=hown.facts
  ·cases h.1
  ·injection hA with hA;injection hA with hA;subst hA;exact hg
 have h:=AnyQ.slices_SortFunc Tryz.sortFt 21 (fun w=>by kernel_rfl) (fun w=>by kernel_rfl) fkE (fun x=>Qc x.1) (fun x=>Xa x.1) fkC fkO 46 #[] p 0 c d W (enters_of Tryz.func46 (by kernel_rfl) rfl)
  (fun m os dk _ x y=>by
    have hgr:=Zbo (W:=W) (p:=p) dk m os;have hbl:=hb.trans (ZbJ hgr hpl hb.size);have h2:=Zdv (YY x.1.1 y.1.1 x.1.2 y.1.2 x.2 y.2 (sortWorldK fkE 21 W p 0 m dk os) (hp.here hbl)) (fun w' hw=>by cases hw.1);exact h2.mono fun e w' h3=>⟨h3.1.1,ZbI h3.1.2 h3.2⟩)
  (ZhD hd hown) hlt (by omega)
 rw[hsz] at h;refine h.mono ?_;rintro e w' ⟨he,d',m,os,hpm,hso,rfl⟩;have hs':=hpm.1;refine⟨he,Zbo d' m os,d'.toList.map (·.1),?_,?_,?_⟩
 ·have h1:=hpm.2.2;rw[<-hsz,<-hs',Array.extract_size] at h1;rw[hs',Array.extract_size] at h1;rw[<-hd];exact h1.map _
 ·intro i j x y hij hx hy hbf;have hj:j<d'.size:=by have:=(List.getElem?_eq_some_iff.1 hy).1;simpa using this
  have e1:=Ze8 (xs:=d'.toList.map (·.1)) (d:=d') rfl hj;have e2:=Ze8 (xs:=d'.toList.map (·.1)) (d:=d') rfl (i:=i) (by omega);rw[hy] at e1;rw[hx] at e2
  injection e1 with e1;injection e2 with e2
  subst e1;subst e2
  have:=hso i j (Nat.zero_le _) hij (by omega)
  rw[(fkL _ _).2 hbf] at this
  cases this
 ·rw[show(d'.toList.map (·.1)).length=xs.length by rw[List.length_map,Array.length_toList,hs',hsz]];exact Zj2 hs' hd hown
theorem Zen(c:Nat)(A:Option Addr)(fv:Value)(w:World):Calls Tryz.prog 45 #[.slice A 0 c,fv] w fun e w'=>e=.returned (.tuple #[])/\w'=w:=
 AnyF.slices_SortFunc_none Tryz.sortFt A c fv w
theorem Zeo(A:Option Addr)(c:Nat)(xs:List Fx)(w0 W:World)(hp:Env w0)(hb:Below w0.1.size w0 W)(hown:Own Qt 21 44 W w0.1.size (.slice A xs.length c) xs)(hk:∀x∈xs,Jh x.1.kind)(hn:xs.length<=100000):
 Calls Tryz.prog 45 #[.slice A xs.length c,.func (.func 46) #[] #[]] W fun e w'=>e=.returned (.tuple #[])/\W.grownBy w' (Value.slice A xs.length c).ownBlock/\
  ∃ys:List Fx,ys.Perm xs/\(∀(i j:Nat) (x y:Fx),i<j->ys[i]?=some x->ys[j]?=some y->¬JD y.1 x.1)/\Own Qt 21 44 w' w0.1.size (.slice A ys.length c) ys:=by
 rcases hown.facts with ⟨_,_,_,⟨rfl,rfl,rfl⟩|⟨g,rfl,hg1,hg2⟩⟩
 ·refine(Zen 0 none _ W).mono ?_;rintro e w' ⟨he,rfl⟩;exact⟨he,⟨rfl,rfl,rfl,Nat.le_refl _,fun _ _ _=>rfl⟩,[],List.Perm.refl _,fun i j x y _ h=>by simp at h,hown⟩
 ·exact Zem g c xs w0 W hp hb hg1 hown hk hn
end
end Go.Proofs.YtbcnkcldlealjaaGreatDoor
