/- Rg, Rg2. -/
import Derived.Test.YtokjnjdbnabchaaGreatDoorQGEp38
import Derived.Orders
namespace Go.Proofs.YtokjnjdbnabchaaGreatDoor
open Go.RowKit Go.Shelf
section
section
variable {P:Program} {ops:Array Oper} {Q:Exit->Act->World->Prop} {md:Region.Mode}
theorem YX{l:Array Bool}{i:Nat}(h:i∈Region.ready md ops l):∃o,ops[i]?=some o/\l.getD i true=false/\∀e∈o.after,Region.binds md e=true->l.getD e.on false=true:=by
 unfold Region.ready at h;rw[List.mem_filter,Bool.and_eq_true] at h;obtain⟨h1,h2,h3⟩:=h
 have hi:=List.mem_range.1 h1;rw[Array.getElem?_eq_getElem hi] at h3;simp only[Option.map_some,Option.getD_some,Array.all_eq_true_iff_forall_mem] at h3;refine⟨ops[i],Array.getElem?_eq_getElem hi,by simpa using h2,fun e he hb=> ?_⟩;have:=h3 e he
 rw[hb] at this;simpa using this
theorem ZeJ{l:Array Bool}(hb:∀(i:Nat) (o:Oper),ops[i]?=some o->∀e∈o.after,e.on<i)(hs:l.size=ops.size)(h:Region.ready md ops l=[]):∀i,i<ops.size->l.getD i false=true:=by
 intro i
 induction i using Nat.strongRecOn with
 |ind i ih=>
  intro hi
  cases hl:l.getD i false with
  |true=>rfl
  |false=>
   exfalso
   have hil:i<l.size:=by omega
   have hm:i∈Region.ready md ops l:=by
    unfold Region.ready;rw[List.mem_filter,Bool.and_eq_true,Array.getElem?_eq_getElem hi];refine⟨List.mem_range.2 hi,?_,?_⟩
    ·rw[Array.getD_eq_getD_getElem?,Array.getElem?_eq_getElem hil] at hl ⊢;simpa using hl
    ·simp only[Option.map_some,Option.getD_some,Array.all_eq_true_iff_forall_mem];intro e he;have h1:=hb i _ (Array.getElem?_eq_getElem hi) e he;rw[ih e.on h1 (by omega),Bool.or_true]
   rw[h] at hm
   cases hm
theorem VZ:∀(l:List Bool) (i:Nat),l[i]?=some false->(l.set i true).countP (fun b=> !b)+1=l.countP (fun b=> !b)
 |[],_,h=>by simp at h
 |b::l,0,h=>by
  simp only[List.getElem?_cons_zero,Option.some.injEq] at h;subst h;simp
 |b::l,i+1,h=>by
  rw[List.getElem?_cons_succ] at h;have:=VZ l i h
  rw[List.set_cons_succ,List.countP_cons,List.countP_cons];omega
theorem ZeK(I:Array Bool->Act->World->Prop)(hb:∀(i:Nat) (o:Oper),ops[i]?=some o->∀e∈o.after,e.on<i)(hg:∀(i:Nat) (o:Oper),ops[i]?=some o->o.guard=none)(hs:∀l a w,I l a w->l.size=ops.size)
 (hstep:∀l a w,I l a w->∀(i:Nat) (o:Oper),ops[i]?=some o->l.getD i true=false->(∀e∈o.after,Region.binds md e=true->l.getD e.on false=true)->o.wp P a w (fun a' w'=>I (l.setIfInBounds i true) a' w') Q)
 (hend:∀l a w,I l a w->(∀i,i<ops.size->l.getD i false=true)->Q .normal a w):
 ∀(fuel:Nat) (l:Array Bool) (a:Act) (w:World),I l a w->l.toList.countP (fun b=> !b)<=fuel->wpAny P md ops Q fuel l a w:=by
 intro fuel
 induction fuel with
 |zero=>
  intro l a w hI hc
  have hall:∀i,i<ops.size->l.getD i false=true:=by
   intro i hi;have hsz:=hs l a w hI;have h0:l.toList.countP (fun b=> !b)=0:=by omega
   rw[List.countP_eq_zero] at h0;have:=h0 (l[i]'(by omega)) (by simp)
   rw[Array.getD_eq_getD_getElem?,Array.getElem?_eq_getElem (by omega)];simpa using this
  refine⟨?_,hend l a w hI hall⟩
  cases hr:Region.ready md ops l with
  |nil=>rfl
  |cons i t=>
   exfalso
   obtain⟨o,ho,hl,_⟩:=YX (md:=md) (ops:=ops) (l:=l) (i:=i) (by rw[hr];exact List.mem_cons_self)
   have hi:=(Array.getElem?_eq_some_iff.1 ho).1;have h1:=hall i hi;have hsz:=hs l a w hI;rw[Array.getD_eq_getD_getElem?,Array.getElem?_eq_getElem (by omega)] at hl h1;simp at hl h1;rw[hl] at h1
   cases h1
 |succ fuel ih=>
  intro l a w hI hc;refine⟨fun hr=>hend l a w hI (ZeJ hb (hs l a w hI) hr),fun i hi=> ?_⟩;obtain⟨o,ho,hl,hd⟩:=YX hi
  have hw:=hstep l a w hI i o ho hl hd;refine wpOp_mono (K:=fun a' w'=>I (l.setIfInBounds i true) a' w') (fun a' w' h'=>ih _ _ _ h' ?_) ?_
  ·have hsz:=hs l a w hI;have hil:i<l.size:=by have:=(Array.getElem?_eq_some_iff.1 ho).1;omega
   rw[Array.getD_eq_getD_getElem?,Array.getElem?_eq_getElem hil] at hl;have:=VZ l.toList i (by rw[List.getElem?_eq_getElem (by simpa using hil)];simpa using hl)
   rw[Array.toList_setIfInBounds];omega
  ·unfold wpOp;rw[ho];simp only;rw[if_pos (by simp[Region.wanted,hg i o ho])];exact .inl hw
theorem ZaG{id:Nat}{a:Act}{w:World}(hm:P.follows .mixedOrders=true)(I:Array Bool->Act->World->Prop)(hb:∀(i:Nat) (o:Oper),ops[i]?=some o->∀e∈o.after,e.on<i)(hg:∀(i:Nat) (o:Oper),ops[i]?=some o->o.guard=none)
 (hs:∀l a w,I l a w->l.size=ops.size)
 (hstep:∀l a w,I l a w->∀(i:Nat) (o:Oper),ops[i]?=some o->l.getD i true=false->(∀e∈o.after,Region.binds .any e=true->l.getD e.on false=true)->o.wp P a w (fun a' w'=>I (l.setIfInBounds i true) a' w') Q)
 (hend:∀l a w,I l a w->(∀i,i<ops.size->l.getD i false=true)->Q .normal a w) (h0:I (Array.replicate ops.size false) a w.drew):(Code.region id ops true).wp P Q a w:=by
 refine wp_region_any hm ?_;refine ZeK (md:=.any) I hb hg hs hstep hend _ _ _ _ h0 ?_;have:=List.countP_le_length (p:=fun b:Bool=> !b) (l:=(Array.replicate ops.size false).toList)
 simpa using this
end
end
section
section
variable {P:Program} {ops:Array Oper} {Q:Exit->Act->World->Prop} {md:Region.Mode}
theorem Zdt{l:Array Bool}(hb:∀(i:Nat) (o:Oper),ops[i]?=some o->∀e∈o.after,Region.binds md e=true->e.on<i)(hs:l.size=ops.size)(h:Region.ready md ops l=[]):∀i,i<ops.size->l.getD i false=true:=by
 intro i
 induction i using Nat.strongRecOn with
 |ind i ih=>
  intro hi
  cases hl:l.getD i false with
  |true=>rfl
  |false=>
   exfalso
   have hil:i<l.size:=by omega
   have hm:i∈Region.ready md ops l:=by
    unfold Region.ready;rw[List.mem_filter,Bool.and_eq_true,Array.getElem?_eq_getElem hi];refine⟨List.mem_range.2 hi,?_,?_⟩
    ·rw[Array.getD_eq_getD_getElem?,Array.getElem?_eq_getElem hil] at hl ⊢;simpa using hl
    ·simp only[Option.map_some,Option.getD_some,Array.all_eq_true_iff_forall_mem];intro e he
     cases hbd:Region.binds md e with
     |false=>rfl
     |true=>
      have h1:=hb i _ (Array.getElem?_eq_getElem hi) e he hbd;rw[ih e.on h1 (by omega),Bool.or_true]
   rw[h] at hm
   cases hm
theorem Zdu(I:Array Bool->Act->World->Prop)(hb:∀(i:Nat) (o:Oper),ops[i]?=some o->∀e∈o.after,Region.binds md e=true->e.on<i)(hg:∀(i:Nat) (o:Oper),ops[i]?=some o->o.guard=none)(hs:∀l a w,I l a w->l.size=ops.size)
 (hstep:∀l a w,I l a w->∀(i:Nat) (o:Oper),ops[i]?=some o->l.getD i true=false->(∀e∈o.after,Region.binds md e=true->l.getD e.on false=true)->o.wp P a w (fun a' w'=>I (l.setIfInBounds i true) a' w') Q)
 (hend:∀l a w,I l a w->(∀i,i<ops.size->l.getD i false=true)->Q .normal a w):
 ∀(fuel:Nat) (l:Array Bool) (a:Act) (w:World),I l a w->l.toList.countP (fun b=> !b)<=fuel->wpAny P md ops Q fuel l a w:=by
 intro fuel
 induction fuel with
 |zero=>
  intro l a w hI hc
  have hall:∀i,i<ops.size->l.getD i false=true:=by
   intro i hi;have hsz:=hs l a w hI;have h0:l.toList.countP (fun b=> !b)=0:=by omega
   rw[List.countP_eq_zero] at h0;have:=h0 (l[i]'(by omega)) (by simp)
   rw[Array.getD_eq_getD_getElem?,Array.getElem?_eq_getElem (by omega)];simpa using this
  refine⟨?_,hend l a w hI hall⟩
  cases hr:Region.ready md ops l with
  |nil=>rfl
  |cons i t=>
   exfalso
   obtain⟨o,ho,hl,_⟩:=YX (md:=md) (ops:=ops) (l:=l) (i:=i) (by rw[hr];exact List.mem_cons_self)
   have hi:=(Array.getElem?_eq_some_iff.1 ho).1;have h1:=hall i hi;have hsz:=hs l a w hI;rw[Array.getD_eq_getD_getElem?,Array.getElem?_eq_getElem (by omega)] at hl h1;simp at hl h1;rw[hl] at h1
   cases h1
 |succ fuel ih=>
  intro l a w hI hc;refine⟨fun hr=>hend l a w hI (Zdt hb (hs l a w hI) hr),fun i hi=> ?_⟩;obtain⟨o,ho,hl,hd⟩:=YX hi
  have hw:=hstep l a w hI i o ho hl hd;refine wpOp_mono (K:=fun a' w'=>I (l.setIfInBounds i true) a' w') (fun a' w' h'=>ih _ _ _ h' ?_) ?_
  ·have hsz:=hs l a w hI;have hil:i<l.size:=by have:=(Array.getElem?_eq_some_iff.1 ho).1;omega
   rw[Array.getD_eq_getD_getElem?,Array.getElem?_eq_getElem hil] at hl;have:=VZ l.toList i (by rw[List.getElem?_eq_getElem (by simpa using hil)];simpa using hl)
   rw[Array.toList_setIfInBounds];omega
  ·unfold wpOp;rw[ho];simp only;rw[if_pos (by simp[Region.wanted,hg i o ho])];exact .inl hw
theorem Zak{id:Nat}{a:Act}{w:World}(hm:P.follows .mixedOrders=true)(I:Array Bool->Act->World->Prop)(hb:∀(i:Nat) (o:Oper),ops[i]?=some o->∀e∈o.after,Region.binds .any e=true->e.on<i)(hg:∀(i:Nat) (o:Oper),ops[i]?=some o->o.guard=none)
 (hs:∀l a w,I l a w->l.size=ops.size)
 (hstep:∀l a w,I l a w->∀(i:Nat) (o:Oper),ops[i]?=some o->l.getD i true=false->(∀e∈o.after,Region.binds .any e=true->l.getD e.on false=true)->o.wp P a w (fun a' w'=>I (l.setIfInBounds i true) a' w') Q)
 (hend:∀l a w,I l a w->(∀i,i<ops.size->l.getD i false=true)->Q .normal a w) (h0:I (Array.replicate ops.size false) a w.drew):(Code.region id ops true).wp P Q a w:=by
 refine wp_region_any hm ?_;refine Zdu (md:=.any) I hb hg hs hstep hend _ _ _ _ h0 ?_;have:=List.countP_le_length (p:=fun b:Bool=> !b) (l:=(Array.replicate ops.size false).toList)
 simpa using this
end
end
end Go.Proofs.YtokjnjdbnabchaaGreatDoor
