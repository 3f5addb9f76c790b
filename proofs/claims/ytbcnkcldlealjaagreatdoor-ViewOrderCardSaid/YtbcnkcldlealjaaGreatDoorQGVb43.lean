/- Vop. -/
import Derived.Test.YtbcnkcldlealjaaGreatDoorQGVb40
import Derived.Test.YtbcnkcldlealjaaGreatDoorQGVb38
namespace Go.Proofs.YtbcnkcldlealjaaGreatDoor
section
open Go
def OkD(l:List Fct):Prop:=DK l/\∀f∈l,Qf f=0/\f.cancelled=false
theorem Zh9{l:List Fct}{f:Fct}(h:OkD l)(h1:Qf f=0)(h2:f.cancelled=false)(h3:(l.any fun g=>g.key==f.key)=false):OkD (l++[f]):=by
 refine⟨?_,fun g hg=> ?_⟩
 ·rw[DK,List.pairwise_append];refine⟨h.1,List.pairwise_singleton _ _,fun a ha b hb e=> ?_⟩;rw[List.mem_singleton.1 hb] at e;rw[List.any_eq_false] at h3;exact h3 a ha (by rw[e];exact beq_self_eq_true _)
 ·rcases List.mem_append.1 hg with hg|hg
  ·exact h.2 g hg
  ·rw[List.mem_singleton.1 hg];exact⟨h1,h2⟩
theorem Zgd(xs:List Fx)(k:Nat)(key:List UInt8):((xs.take k).any fun x=>x.1.key==key)=((xs.map (·.1)).take k).any fun g=>g.key==key:=by
 rw[<-List.map_take,List.any_map];rfl
theorem Zia{l:List Fct}(h:OkD l){f:Fct}(hf:f∈l):∃i,YI (QC (l.map QE)) f.key=some i/\(QC (l.map QE))[i]?=some (QE f):=by
 have hm:QE f∈QC (l.map QE):=(QD _ _).2 (List.mem_map.2 ⟨f,hf,rfl⟩);have hdz:DK (l.map QE):=by rw[DK,List.pairwise_map];exact h.1
 have hd:DK (QC (l.map QE)):=VJ (QY hdz) fun a ha b hb e=>Zbk hdz ((QD _ _).1 ha) ((QD _ _).1 hb) e
 exact Zjc hd hm
theorem Zib{l m:List Fct}(h:OkD l)(hp:m.Perm l):QC (m.map QE)=QC (l.map QE):=by
 have hdz:DK (l.map QE):=by rw[DK,List.pairwise_map];exact h.1
 exact(Zer (hp.symm.map QE) hdz).symm
theorem ZdO{l p r:List Fct}{f:Fct}(h:OkD l)(hl:l.length<=12)(hp:(p++f::r).Perm l):Yj (QC (p.map QE)) f=(QC ((p++[f]).map QE),0):=
 Zes h.1 (by omega) h.2 hp
end
end Go.Proofs.YtbcnkcldlealjaaGreatDoor
