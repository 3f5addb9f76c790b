/- Rq1, Rq7. -/
import Derived.Test.YtmfjmngebldanaaGreatDoorQGVe23
import Derived.Test.YtmfjmngebldanaaGreatDoorQGVe9
import Derived.Test.YtmfjmngebldanaaGreatDoorQGVe16
set_option maxRecDepth 20000
namespace Go.Proofs.YtmfjmngebldanaaGreatDoor
open Go.Lib renaming hid→jq
open Go.RowKit Go.Shelf
section
theorem Zgl(a:List UInt8)(w:World)(ha:a.length<=1000000000):Calls Tryz.prog 150 #[S a] w fun e w'=>e=.returned (.int .i64 (if JT a=true then 0 else 1))/\w=w':=by
 have HC:=jq (fun W=>YX a W ha)
 have HE:=jq (show(if JT a=true then(0:Int) else 1)=if(Qe (val a)==a)=true then 0 else 1 by
  have h:JT a=(Qe (val a)==a):=by
   unfold JT;rw[Bool.eq_iff_iff,decide_eq_true_eq,beq_iff_eq];exact eq_comm
  rw[h])
 generalize (if JT a=true then(0:Int) else 1)=r at*;generalize Qe (val a)=t at*;clear ha;unfold S at*
 cases h:(t==a) with
 |true=>
  have h2:(t !=a)=false:=by simp[bne,h]
  rw[h,if_pos rfl] at HE;go_enter Tryz.func150,Tryz.ntmps150
  go_wp2_with fail
  refine(HC.out _).mono ?_;rintro e w1 ⟨rfl,rfl⟩;go_wp2_with fail
  first|go_ret|skip
  rw[HE.out];exact⟨rfl,rfl⟩
 |false=>
  have h2:(t !=a)=true:=by simp[bne,h]
  rw[h,if_neg (by decide)] at HE;go_enter Tryz.func150,Tryz.ntmps150
  go_wp2_with fail
  refine(HC.out _).mono ?_;rintro e w1 ⟨rfl,rfl⟩;go_wp2_with fail
  first|go_ret|skip
  rw[HE.out];exact⟨rfl,rfl⟩
end
section
theorem Znj{s:List UInt8}{k:Nat}(h:s[k]?=some 47)(hn:47 ∉ s.take k):YC s=s.take k/\VT s=s.drop (k+1)/\47∈s:=by
 obtain⟨hk,e⟩:=List.getElem?_eq_some_iff.1 h
 have hs:s=s.take k++47::s.drop (k+1):=by
  conv=>lhs;rw[<-List.take_append_drop k s,List.drop_eq_getElem_cons hk,e]
 have hall:∀x∈s.take k,(x !=47)=true:=fun x hx=>by
  rw[bne_iff_ne];exact fun e=>hn (e▸hx)
 generalize s.take k=a at*;generalize s.drop (k+1)=r at*;subst hs;refine⟨?_,?_,by simp⟩
 ·unfold YC;rw[List.takeWhile_append_of_pos hall];simp
 ·unfold VT;rw[List.dropWhile_append_of_pos hall];simp
end
end Go.Proofs.YtmfjmngebldanaaGreatDoor
