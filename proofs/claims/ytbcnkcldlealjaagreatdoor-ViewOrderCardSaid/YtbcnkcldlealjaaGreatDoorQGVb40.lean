/- Vw1, Vw2, Vw3, Vsp, Vdp. -/
import Derived.Test.YtbcnkcldlealjaaGreatDoorQGVb19
import Derived.Lib.SlicesCompact
namespace Go.Proofs.YtbcnkcldlealjaaGreatDoor
section
open Go
theorem blt:∀(x y:List UInt8),(Op.bytesLess x y=true)↔x<y
 |[],[]=>by simp[Op.bytesLess]
 |[],_::_=>by simp[Op.bytesLess]
 |_::_,[]=>by simp[Op.bytesLess]
 |a::x,b::y=>by
  have ih:=blt x y;simp only[Op.bytesLess,List.cons_lt_cons_iff,Bool.or_eq_true,Bool.and_eq_true,decide_eq_true_eq,beq_iff_eq,ih]
theorem VH(x y:List UInt8):x<y\/x=y\/y<x:=by
 rcases Decidable.em (x<y) with h|h
 ·exact .inl h
 ·rcases Decidable.em (y<x) with h2|h2
  ·exact .inr (.inr h2)
  ·exact .inr (.inl (List.le_antisymm (List.not_lt.1 h2) (List.not_lt.1 h)))
theorem Zdn{x y:List UInt8}(h:x<y):¬y<x:=fun h2=>List.lt_irrefl x (List.lt_trans h h2)
theorem ZiW(s t:List UInt8):ZcC s t<0↔s<t:=by
 unfold ZcC
 by_cases h:s<t
 ·rw[if_pos ((blt s t).2 h)];exact⟨fun _=>h,fun _=>by decide⟩
 ·rw[if_neg (fun e=>h ((blt s t).1 e))]
  split<;>exact⟨fun e=>absurd e (by decide),fun e=>absurd e h⟩
def JD(f g:Fct):Prop:=f.day<g.day\/(f.day=g.day/\(QZ f.kind<QZ g.kind\/(QZ f.kind=QZ g.kind/\f.key<g.key)))
theorem Ze1(a b:Int):Yp a b<0↔a<b:=by unfold Yp;split<;>(try split)<;>omega
theorem Ze2(a b:Int):Yp a b=0↔a=b:=by unfold Yp;split<;>(try split)<;>omega
theorem Xi(f g:Fct):Xy f g<0↔JD f g:=by
 unfold Xy JD;have a1:=Ze1 f.day g.day;have a3:=Ze2 f.day g.day;have b1:=Ze1 (QZ f.kind) (QZ g.kind);have b3:=Ze2 (QZ f.kind) (QZ g.kind);have c1:=ZiW f.key g.key
 by_cases h:Yp f.day g.day=0
 ·rw[if_neg (by simpa using h)];have hd:=a3.1 h
  by_cases h2:Yp (QZ f.kind) (QZ g.kind)=0
  ·rw[if_neg (by simpa using h2)];have hc:=b3.1 h2;rw[c1]
   constructor
   ·intro hk;exact .inr ⟨hd,.inr ⟨hc,hk⟩⟩
   ·rintro(h4|⟨_,h4|⟨_,h4⟩⟩)
    ·omega
    ·omega
    ·exact h4
  ·rw[if_pos h2,b1];have hc:=mt b3.2 h2
   constructor
   ·intro h4;exact .inr ⟨hd,.inl h4⟩
   ·rintro(h4|⟨_,h4|⟨h4,_⟩⟩)
    ·omega
    ·exact h4
    ·exact absurd h4 hc
 ·rw[if_pos h,a1];have hd:=mt a3.2 h
  constructor
  ·exact .inl
  ·rintro(h4|⟨h4,_⟩)
   ·exact h4
   ·exact absurd h4 hd
theorem ZaJ(f:Fct):¬JD f f:=by
 rintro(h|⟨_,h|⟨_,h⟩⟩)
 ·omega
 ·omega
 ·exact List.lt_irrefl _ h
theorem XJ{f g h:Fct}(h1:JD f g)(h2:JD g h):JD f h:=by
 unfold JD at*
 rcases h1 with a|⟨a,b|⟨b,c⟩⟩<;>rcases h2 with d|⟨d,e|⟨e,k⟩⟩
 ·exact .inl (by omega)
 ·exact .inl (by omega)
 ·exact .inl (by omega)
 ·exact .inl (by omega)
 ·exact .inr ⟨by omega,.inl (by omega)⟩
 ·exact .inr ⟨by omega,.inl (by omega)⟩
 ·exact .inl (by omega)
 ·exact .inr ⟨by omega,.inl (by omega)⟩
 ·exact .inr ⟨by omega,.inr ⟨by omega,List.lt_trans c k⟩⟩
theorem ZcH{f g:Fct}(h:f.key≠g.key):JD f g\/JD g f:=by
 unfold JD
 rcases Int.lt_trichotomy f.day g.day with a|a|a
 ·exact .inl (.inl a)
 ·rcases Int.lt_trichotomy (QZ f.kind) (QZ g.kind) with b|b|b
  ·exact .inl (.inr ⟨a,.inl b⟩)
  ·rcases VH f.key g.key with c|c|c
   ·exact .inl (.inr ⟨a,.inr ⟨b,c⟩⟩)
   ·exact absurd c h
   ·exact .inr (.inr ⟨a.symm,.inr ⟨b.symm,c⟩⟩)
  ·exact .inr (.inr ⟨a.symm,.inl b⟩)
 ·exact .inr (.inl a)
abbrev Srt(l:List Fct):Prop:=l.Pairwise JD
abbrev DK(l:List Fct):Prop:=l.Pairwise fun f g=>f.key≠g.key
theorem Zeg{α:Type}{r:α->α->Prop}(hi:∀x,¬r x x)(ht:∀x y z,r x y->r y z->r x z):∀{a b:List α},a.Pairwise r->b.Pairwise r->(∀x,x∈a↔x∈b)->a=b
 |[],[],_,_,_=>rfl
 |[],y::b,_,_,h=>by have:=(h y).2 (List.mem_cons_self ..);cases this
 |x::a,[],_,_,h=>by have:=(h x).1 (List.mem_cons_self ..);cases this
 |x::a,y::b,h1,h2,h=>by
  rw[List.pairwise_cons] at h1 h2
  have hxy:x=y:=by
   rcases List.mem_cons.1 ((h x).1 (List.mem_cons_self ..)) with e|e
   ·exact e
   ·rcases List.mem_cons.1 ((h y).2 (List.mem_cons_self ..)) with e2|e2
    ·exact e2.symm
    ·exact absurd (ht _ _ _ (h1.1 y e2) (h2.1 x e)) (hi x)
  subst hxy
  congr 1
  refine Zeg hi ht h1.2 h2.2 fun z=> ?_
  have hz:=h z;rw[List.mem_cons,List.mem_cons] at hz
  constructor
  ·intro hm
   rcases hz.1 (.inr hm) with e|e
   ·subst e;exact absurd (h1.1 z hm) (hi z)
   ·exact e
  ·intro hm
   rcases hz.2 (.inr hm) with e|e
   ·subst e;exact absurd (h2.1 z hm) (hi z)
   ·exact e
theorem VI{a b:List Fct}(h1:Srt a)(h2:Srt b)(h:∀f,f∈a↔f∈b):a=b:=Zeg ZaJ (fun _ _ _=>XJ) h1 h2 h
theorem Jr(f g:Fct):∀l,g∈VP f l↔g=f\/g∈l
 |[]=>by simp[VP]
 |h::l=>by
  unfold VP
  split
  ·simp
  ·rw[List.mem_cons,Jr f g l,List.mem_cons]
   constructor
   ·rintro(h1|h1|h1)
    ·exact .inr (.inl h1)
    ·exact .inl h1
    ·exact .inr (.inr h1)
   ·rintro(h1|h1|h1)
    ·exact .inr (.inl h1)
    ·exact .inl h1
    ·exact .inr (.inr h1)
theorem Zbi(f:Fct):∀{l:List Fct},Srt l->(∀g∈l,g.key≠f.key)->Srt (VP f l)
 |[],_,_=>by simp[VP,Srt]
 |h::l,hs,hk=>by
  rw[Srt,List.pairwise_cons] at hs;unfold VP
  by_cases e:Xy f h<0
  ·rw[if_pos e];have hb:=(Xi f h).1 e;refine List.pairwise_cons.2 ⟨fun g hg=> ?_,List.pairwise_cons.2 hs⟩
   rcases List.mem_cons.1 hg with rfl|hg
   ·exact hb
   ·exact XJ hb (hs.1 g hg)
  ·rw[if_neg e];refine List.pairwise_cons.2 ⟨fun g hg=> ?_,Zbi f hs.2 fun g hg=>hk g (List.mem_cons_of_mem _ hg)⟩
   rcases(Jr f g l).1 hg with rfl|hg
   ·rcases ZcH (hk h (List.mem_cons_self ..)) with h1|h1
    ·exact h1
    ·exact absurd ((Xi _ _).2 h1) e
   ·exact hs.1 g hg
theorem QD(g:Fct):∀l,g∈QC l↔g∈l
 |[]=>by simp[QC]
 |f::l=>by unfold QC;rw[Jr,QD g l,List.mem_cons]
theorem QY:∀{l:List Fct},DK l->Srt (QC l)
 |[],_=>by simp[QC,Srt]
 |f::l,h=>by
  rw[DK,List.pairwise_cons] at h;exact Zbi f (QY h.2) fun g hg=>(h.1 g ((QD g l).1 hg)).symm
theorem Zbj(f:Fct):∀l,(VP f l).length=l.length+1
 |[]=>rfl
 |g::l=>by unfold VP;split<;>simp[Zbj f l]
theorem XK:∀l,(QC l).length=l.length
 |[]=>rfl
 |f::l=>by unfold QC;rw[Zbj,XK l];rfl
theorem Zbk{l:List Fct}(h:DK l){f g:Fct}(hf:f∈l)(hg:g∈l)(e:f.key=g.key):f=g:=by
 induction l with
 |nil=>cases hf
 |cons x l ih=>
  rw[DK,List.pairwise_cons] at h
  rcases List.mem_cons.1 hf with hf1|hf1<;>rcases List.mem_cons.1 hg with hg1|hg1
  ·rw[hf1,hg1]
  ·rw[hf1] at e;exact absurd e (h.1 g hg1)
  ·rw[hg1] at e;exact absurd e.symm (h.1 f hf1)
  ·exact ih h.2 hf1 hg1
theorem VJ{l:List Fct}(hs:Srt l)(h:∀f∈l,∀g∈l,f.key=g.key->f=g):DK l:=by
 induction l with
 |nil=>exact List.Pairwise.nil
 |cons x l ih=>
  rw[Srt,List.pairwise_cons] at hs;refine List.pairwise_cons.2 ⟨fun g hg e=> ?_,ih hs.2 fun f hf g hg=>h f (List.mem_cons_of_mem _ hf) g (List.mem_cons_of_mem _ hg)⟩;have:=h x (List.mem_cons_self ..) g (List.mem_cons_of_mem _ hg) e
  subst this;exact ZaJ x (hs.1 x hg)
section
theorem VK(f:Fct):∀(l:List Fct) (seen:List (List UInt8)),f∈Xd seen l↔f.key ∉ seen/\l.find? (fun x=>x.key==f.key)=some f
 |[],seen=>by simp[Xd]
 |g::l,seen=>by
  unfold Xd
  by_cases h:seen.contains g.key=true
  ·rw[if_pos h,VK f l seen];have hg:g.key∈seen:=by simpa using h
   by_cases e:g.key=f.key
   ·rw[e] at hg;exact⟨fun h=>absurd hg h.1,fun h=>absurd hg h.1⟩
   ·rw[List.find?_cons_of_neg (by simpa using e)]
  ·rw[if_neg h,List.mem_cons,VK f l (g.key::seen)];have hg:g.key ∉ seen:=by simpa using h
   by_cases e:g.key=f.key
   ·rw[List.find?_cons_of_pos (by simpa using e)]
    constructor
    ·rintro(rfl|⟨h1,_⟩)
     ·exact⟨hg,rfl⟩
     ·exact absurd (by rw[e];exact List.mem_cons_self ..) h1
    ·rintro⟨_,h2⟩;exact .inl (Option.some.inj h2).symm
   ·rw[List.find?_cons_of_neg (by simpa using e)]
    constructor
    ·rintro(rfl|⟨h1,h2⟩)
     ·exact absurd rfl e
     ·exact⟨fun h=>h1 (List.mem_cons_of_mem _ h),h2⟩
    ·rintro⟨h1,h2⟩;refine .inr ⟨fun h=> ?_,h2⟩
     rcases List.mem_cons.1 h with h|h
     ·exact e h.symm
     ·exact h1 h
theorem Zbl:∀(l:List Fct) (seen:List (List UInt8)),DK (Xd seen l)
 |[],_=>List.Pairwise.nil
 |g::l,seen=>by
  unfold Xd
  split
  ·exact Zbl l seen
  ·refine List.pairwise_cons.2 ⟨fun f hf e=> ?_,Zbl l _⟩;exact((VK f l _).1 hf).1 (by rw[e];exact List.mem_cons_self ..)
end
theorem YV(f:Fct):∀(l:List Fct) (seen:List (List UInt8)),Xd seen (l++[f])=Xd seen l++if f.key∈seen\/f.key∈l.map (·.key) then[] else[f]
 |[],seen=>by
  simp only[List.nil_append,List.map_nil,List.not_mem_nil,or_false,Xd]
  by_cases h:f.key∈seen
  ·rw[if_pos (by simpa using h),if_pos h]
  ·rw[if_neg (by simpa using h),if_neg h]
 |g::l,seen=>by
  simp only[List.cons_append,Xd]
  by_cases h:seen.contains g.key=true
  ·rw[if_pos h,if_pos h,YV f l seen];have hg:g.key∈seen:=by simpa using h
   congr 1
   by_cases e:f.key=g.key
   ·rw[if_pos (.inl (e▸hg)),if_pos (.inl (e▸hg))]
   ·simp[e]
  ·rw[if_neg h,if_neg h,YV f l (g.key::seen),List.cons_append]
   congr 2
   by_cases e:f.key=g.key<;>simp[e]
theorem Zcb(f:Fct)(l:List Fct):f∈Vr l↔Qd l f.key=some f:=by unfold Vr Qd;rw[VK];simp
theorem Zho(l:List Fct):DK (Vr l):=Zbl _ _
theorem XL{l:List Fct}{k:List UInt8}{f:Fct}(h:Qd l k=some f):f.key=k:=by
 have:=List.find?_some h
 simpa using this
theorem QR{l:List Fct}{k:List UInt8}{f:Fct}(h:Qd l k=some f):f∈l:=by
 have:=List.mem_of_find?_eq_some h
 simpa using this
theorem XM{l:List Fct}{k:List UInt8}:Qd l k=none↔∀f∈l,f.key≠k:=by
 unfold Qd;rw[List.find?_eq_none];simp
theorem Zeh{l:List Fct}{f:Fct}(h:f∈l):∃g,Qd l f.key=some g:=by
 cases e:Qd l f.key with
 |none=>exact absurd rfl (XM.1 e f h)
 |some g=>exact⟨g,rfl⟩
theorem YK{l:List Fct}(h:DK l){f:Fct}(hf:f∈l):Qd l f.key=some f:=by
 obtain⟨g,hg⟩:=Zeh hf
 rw[hg,Zbk h (QR hg) hf (XL hg)]
theorem ZaK(g:Fct)(l:List Fct):g∈JC l↔∃f,Qd l g.key=some f/\f.cancelled=false/\g=QE f:=by
 unfold JC;rw[QD,List.mem_map]
 constructor
 ·rintro⟨f,hf,rfl⟩;rw[List.mem_filter,Zcb] at hf;exact⟨f,hf.1,by simpa using hf.2,rfl⟩
 ·rintro⟨f,h1,h2,rfl⟩;refine⟨f,List.mem_filter.2 ⟨(Zcb f l).2 h1,by simp[h2]⟩,rfl⟩
theorem Ze3(l:List Fct):DK (((Vr l).filter fun f=> !f.cancelled).map QE):=by
 refine List.Pairwise.map _ (fun a b h=> ?_) ((Zho l).sublist List.filter_sublist);exact h
theorem ZaL(l:List Fct):Srt (JC l):=QY (Ze3 l)
theorem ZjY(l:List Fct):DK (JC l):=by
 refine VJ (ZaL l) fun f hf g hg e=> ?_
 obtain⟨x,h1,_,rfl⟩:=(ZaK f l).1 hf
 obtain⟨y,h2,_,rfl⟩:=(ZaK g l).1 hg
 rw[e] at h1;rw[h1] at h2;rw[Option.some.inj h2]
theorem Js(l:List Fct):(JC l).length<=l.length:=by
 unfold JC;rw[XK,List.length_map];refine Nat.le_trans (List.length_filter_le _ _) ?_;unfold Vr
 have:∀(l:List Fct) seen,(Xd seen l).length<=l.length:=by
  intro l
  induction l with
  |nil=>intro _;simp[Xd]
  |cons f l ih=>intro seen;unfold Xd;split<;>simp<;>first|exact Nat.le_succ_of_le (ih _)|exact ih _
 have h:=this l.reverse [];rw[List.length_reverse] at h;exact h
theorem Ze4{l m:List Fct}(h:∀k,(Qd l k).bind (fun f=>if f.cancelled=true then none else some (QE f))=(Qd m k).bind fun f=>if f.cancelled=true then none else some (QE f)):JC l=JC m:=by
 refine VI (ZaL l) (ZaL m) fun g=> ?_
 have hm:∀n,g∈JC n↔(Qd n g.key).bind (fun f=>if f.cancelled=true then none else some (QE f))=some g:=by
  intro n;rw[ZaK]
  constructor
  ·rintro⟨f,h1,h2,h3⟩;rw[h1,Option.bind_some,if_neg (by rw[h2];decide),<-h3]
  ·intro h1
   cases e:Qd n g.key with
   |none=>rw[e] at h1;cases h1
   |some f=>
    rw[e,Option.bind_some] at h1
    by_cases hc:f.cancelled=true
    ·rw[if_pos hc] at h1;cases h1
    ·rw[if_neg hc] at h1;exact⟨f,rfl,by simpa using hc,(Option.some.inj h1).symm⟩
 rw[hm,hm,h]
theorem ZiX(f:Fct):(QE f).key=f.key:=rfl
end
section
open Go
theorem ZhE(f:Fct)(r:KRow)(i:Nat):YC (QE f) r i=YC f r i:=rfl
theorem ZhF(f:Fct)(i:Nat):(QE f).none i=f.none i:=rfl
theorem Zcd(f:Fct)(r:KRow):∀(n i:Nat),Vh (QE f) r i n=Vh f r i n
 |0,_=>rfl
 |n+1,i=>by unfold Vh;rw[ZhE,ZhF,Zcd f r n (i+1)]
theorem ZaP{f:Fct}(h:Qf f=0)(hc:f.cancelled=false):Qf (QE f)=0:=by
 unfold Qf at*
 rw[show(QE f).key=f.key from rfl,show(QE f).stamp=0 from rfl,show(QE f).cancelled=f.cancelled from rfl,show(QE f).day=f.day from rfl,show(QE f).kind=f.kind from rfl]
 by_cases h1:Qv f.key=false
 ·rw[if_pos h1] at h;cases h
 rw[if_neg h1] at h ⊢
 by_cases h2:f.stamp<0
 ·rw[if_pos h2] at h;cases h
 rw[if_neg h2] at h;rw[if_neg (by decide)];rw[if_neg (by rw[hc];decide)] at h ⊢
 by_cases h3:f.day< -25567\/84005<f.day
 ·rw[if_pos h3] at h;cases h
 rw[if_neg h3] at h ⊢
 cases hk:XT f.kind with
 |none=>rw[hk] at h;cases h
 |some r=>rw[hk] at h;exact(Zcd f r 13 0).trans h
theorem Zi6{f:Fct}(h:Qf f=0):Qv f.key=true:=by
 unfold Qf at h
 by_cases h1:Qv f.key=false
 ·rw[if_pos h1] at h;cases h
 ·simpa using h1
theorem Ze9{f:Fct}(h:Qf f=0)(hc:f.cancelled=false): -25567<=f.day/\f.day<=84005:=by
 unfold Qf at h
 by_cases h1:Qv f.key=false
 ·rw[if_pos h1] at h;cases h
 rw[if_neg h1] at h
 by_cases h2:f.stamp<0
 ·rw[if_pos h2] at h;cases h
 rw[if_neg h2,if_neg (by rw[hc];decide)] at h
 by_cases h3:f.day< -25567\/84005<f.day
 ·rw[if_pos h3] at h;cases h
 omega
def YZ(k:List UInt8):Fct:=⟨k,0,true,0,0,[],[],[],[],[],[],[],⟨[],[]⟩,⟨[],[]⟩,⟨[],[]⟩,[],[],0⟩
theorem Zi7{k:List UInt8}(h:Qv k=true):Qf (YZ k)=0:=by
 unfold Qf;rw[if_neg (by show ¬Qv k=false;rw[h];decide),if_neg (by show ¬(0:Int)<0;decide),if_pos (show(YZ k).cancelled=true from rfl)];exact if_pos rfl
structure LogOk (l:List Fct):Prop where
 len:l.length<=1000
 chk:∀f∈l,Qf f=0
 ord:l.Pairwise fun f g=>f.stamp<=g.stamp
theorem Zce:∀(l:List Fct) (p:Option Int),Za9 p l=0↔(∀f∈l,Qf f=0)/\(∀s f,p=some s->l.head?=some f->s<=f.stamp)/\l.Pairwise fun f g=>f.stamp<=g.stamp
 |[],p=>by simp[Za9]
 |f::l,p=>by
  have ih:=Zce l (some f.stamp);unfold Za9
  by_cases h1:Qf f=0
  ·rw[if_neg (by simpa using h1)]
   by_cases h2:Za8 p f.stamp=true
   ·rw[if_pos h2];refine⟨fun h=>(by cases h),fun h=> ?_⟩
    cases p with
    |none=>cases h2
    |some s=>have:=h.2.1 s f rfl rfl;simp[Za8] at h2;omega
   ·rw[if_neg h2,ih]
    constructor
    ·rintro⟨a,b,c⟩;refine⟨fun g hg=> ?_,fun s g hs hg=> ?_,List.pairwise_cons.2 ⟨fun g hg=> ?_,c⟩⟩
     ·rcases List.mem_cons.1 hg with rfl|hg
      ·exact h1
      ·exact a g hg
     ·subst hs;simp[Za8] at hg h2
      rw[<-hg];omega
     ·cases l with
      |nil=>cases hg
      |cons x l=>
       have hx:=b f.stamp x rfl rfl
       rcases List.mem_cons.1 hg with rfl|hg
       ·exact hx
       ·exact Int.le_trans hx ((List.pairwise_cons.1 c).1 g hg)
    ·rintro⟨a,b,c⟩;rw[List.pairwise_cons] at c;refine⟨fun g hg=>a g (List.mem_cons_of_mem _ hg),fun s g hs hg=> ?_,c.2⟩;injection hs with hs;subst hs;exact c.1 g (List.mem_of_mem_head? hg)
  ·rw[if_pos h1];exact⟨fun h=>absurd h h1,fun h=>absurd (h.1 f (List.mem_cons_self ..)) h1⟩
theorem YL(l:List Fct):Vq l=0↔LogOk l:=by
 unfold Vq
 by_cases h:1000<l.length
 ·rw[if_pos h];exact⟨fun h=>(by cases h),fun h2=>by have:=h2.len;omega⟩
 ·rw[if_neg h,Zce];exact⟨fun⟨a,_,c⟩=>⟨by omega,a,c⟩,fun h2=>⟨h2.chk,fun s f hs=>(by cases hs),h2.ord⟩⟩
theorem LogOk.sub{l m:List Fct}(h:LogOk l)(hs:m.Sublist l):LogOk m:=⟨Nat.le_trans hs.length_le h.len,fun f hf=>h.chk f (hs.subset hf),h.ord.sublist hs⟩
theorem LogOk.take{l:List Fct}(h:LogOk l)(k:Nat):LogOk (l.take k):=h.sub (List.take_sublist k l)
structure VwOk (v:List Fct):Prop where
 len:v.length<=1000
 chk:∀f∈v,Qf f=0/\f.cancelled=false/\f.stamp=0
 dk:DK v
 srt:Srt v
theorem Zcf:∀(fs pre:List Fct),DK pre->Srt pre->(ZcD pre fs=0↔(∀f∈fs,Qf f=0/\f.cancelled=false/\f.stamp=0)/\DK (pre++fs)/\Srt (pre++fs))
 |[],pre,hd,hs=>by rw[List.append_nil];exact⟨fun _=>⟨fun f h=>(by cases h),hd,hs⟩,fun _=>rfl⟩
 |f::fs,pre,hd,hs=>by
  unfold ZcD
  have bad:∀(z:Int),z≠0->¬((∀g∈f::fs,Qf g=0/\g.cancelled=false/\g.stamp=0)/\DK (pre++f::fs)/\Srt (pre++f::fs))->(z=0↔((∀g∈f::fs,Qf g=0/\g.cancelled=false/\g.stamp=0)/\DK (pre++f::fs)/\Srt (pre++f::fs))):=
   fun z hz hn=>⟨fun h=>absurd h hz,fun h=>absurd h hn⟩
  by_cases h1:Qf f=0
  ·rw[if_neg (by simpa using h1)]
   by_cases h2:f.cancelled=true
   ·rw[if_pos h2]
    exact bad 19 (by decide) fun h=>by have:=(h.1 f (List.mem_cons_self ..)).2.1;rw[h2] at this;cases this
   rw[if_neg h2]
   by_cases h3:f.stamp=0
   ·rw[if_neg (by simpa using h3)]
    by_cases h4:(pre.any fun g=>g.key==f.key)=true
    ·rw[if_pos h4];refine bad 5 (by decide) fun h=> ?_
     obtain⟨g,hg,e⟩:=List.any_eq_true.1 h4
     exact(List.pairwise_append.1 h.2.1).2.2 g hg f (List.mem_cons_self ..) (by simpa using e)
    ·rw[if_neg h4]
     by_cases h5:Zb2 pre.getLast? f=true
     ·rw[if_pos h5];refine bad 8 (by decide) fun h=> ?_
      cases hg:pre.getLast? with
      |none=>rw[hg] at h5;cases h5
      |some g=>
       rw[hg] at h5;have hb:=(List.pairwise_append.1 h.2.2).2.2 g (List.mem_of_getLast? hg) f (List.mem_cons_self ..);have:=(Xi g f).2 hb
       simp[Zb2] at h5;omega
     ·rw[if_neg h5];have hk:∀g∈pre,g.key≠f.key:=fun g hg e=>h4 (List.any_eq_true.2 ⟨g,hg,by simpa using e⟩)
      have hd2:DK (pre++[f]):=List.pairwise_append.2 ⟨hd,List.pairwise_singleton ..,fun g hg x hx=>by rw[List.mem_singleton.1 hx];exact hk g hg⟩
      have hs2:Srt (pre++[f]):=by
       refine List.pairwise_append.2 ⟨hs,List.pairwise_singleton ..,fun g hg x hx=> ?_⟩;rw[List.mem_singleton.1 hx]
       cases hl:pre.getLast? with
       |none=>rw[List.getLast?_eq_none_iff] at hl;subst hl;cases hg
       |some y=>
        rw[hl] at h5;have hyf:JD y f:=(Xi y f).1 (by simp[Zb2] at h5;omega);obtain⟨ys,rfl⟩:=List.getLast?_eq_some_iff.1 hl
        rcases List.mem_append.1 hg with hg|hg
        ·exact XJ ((List.pairwise_append.1 hs).2.2 g hg y (List.mem_cons_self ..)) hyf
        ·rw[List.mem_singleton.1 hg];exact hyf
      rw[Zcf fs (pre++[f]) hd2 hs2,List.append_assoc,List.singleton_append]
      constructor
      ·rintro⟨a,b,c⟩;refine⟨fun g hg=> ?_,b,c⟩
       rcases List.mem_cons.1 hg with rfl|hg
       ·exact⟨h1,by simpa using h2,h3⟩
       ·exact a g hg
      ·rintro⟨a,b,c⟩;exact⟨fun g hg=>a g (List.mem_cons_of_mem _ hg),b,c⟩
   ·rw[if_pos h3];exact bad 1 (by decide) fun h=>h3 (h.1 f (List.mem_cons_self ..)).2.2
  ·rw[if_pos h1];exact bad _ h1 fun h=>h1 (h.1 f (List.mem_cons_self ..)).1
theorem XN(v:List Fct):Yi v=0↔VwOk v:=by
 unfold Yi
 by_cases h:1000<v.length
 ·rw[if_pos h];exact⟨fun h=>(by cases h),fun h2=>by have:=h2.len;omega⟩
 ·rw[if_neg h,Zcf v [] List.Pairwise.nil List.Pairwise.nil];exact⟨fun⟨a,b,c⟩=>⟨by omega,a,b,c⟩,fun h2=>⟨h2.chk,h2.dk,h2.srt⟩⟩
theorem Zj3{l:List Fct}(h:LogOk l):VwOk (JC l):=
 ⟨Nat.le_trans (Js l) h.len,fun g hg=>by
  obtain⟨f,h1,h2,rfl⟩:=(ZaK g l).1 hg
  exact⟨ZaP (h.chk f (QR h1)) h2,h2,rfl⟩,ZjY l,ZaL l⟩
theorem Xv(v:List Fct)(f g:Fct):g∈QI v f↔(g∈v/\g.key≠f.key)\/(f.cancelled=false/\g=QE f):=by
 unfold QI
 by_cases h:f.cancelled=true
 ·rw[if_pos h,List.mem_filter]
  constructor
  ·rintro⟨h1,h2⟩;exact .inl ⟨h1,by simpa using h2⟩
  ·rintro(⟨h1,h2⟩|⟨h1,_⟩)
   ·exact⟨h1,by simpa using h2⟩
   ·rw[h] at h1;cases h1
 ·rw[if_neg h,Jr,List.mem_filter]
  constructor
  ·rintro(h1|⟨h1,h2⟩)
   ·exact .inr ⟨by simpa using h,h1⟩
   ·exact .inl ⟨h1,by simpa using h2⟩
  ·rintro(⟨h1,h2⟩|⟨_,h1⟩)
   ·exact .inr ⟨h1,by simpa using h2⟩
   ·exact .inl h1
theorem Zac{v:List Fct}(h:Srt v)(f:Fct):Srt (QI v f):=by
 unfold QI
 split
 ·exact h.sublist List.filter_sublist
 ·refine Zbi _ (h.sublist List.filter_sublist) fun g hg=> ?_
  have h2:g.key≠f.key:=by simpa using(List.mem_filter.1 hg).2
  exact h2
theorem Zdw{v:List Fct}(h:Srt v)(hd:DK v)(f:Fct):DK (QI v f):=by
 refine VJ (Zac h f) fun x hx y hy e=> ?_
 rcases(Xv v f x).1 hx with ⟨h1,h2⟩|⟨_,rfl⟩<;>rcases(Xv v f y).1 hy with ⟨h3,h4⟩|⟨_,rfl⟩
 ·exact Zbk hd h1 h3 e
 ·exact absurd e h2
 ·exact absurd e.symm h4
 ·rfl
theorem ZfQ(v:List Fct)(f:Fct):(QI v f).length<=v.length+1:=by
 unfold QI
 split
 ·exact Nat.le_succ_of_le (List.length_filter_le _ _)
 ·rw[Zbj];exact Nat.succ_le_succ (List.length_filter_le _ _)
theorem ZhG{v:List Fct}{f:Fct}(h:VwOk v)(hf:Qf f=0)(hl:(QI v f).length<=1000):VwOk (QI v f):=
 ⟨hl,fun g hg=>by
  rcases(Xv v f g).1 hg with ⟨h1,_⟩|⟨h1,rfl⟩
  ·exact h.chk g h1
  ·exact⟨ZaP hf h1,h1,rfl⟩,Zdw h.srt h.dk f,Zac h.srt f⟩
theorem Zcg{v:List Fct}{f:Fct}(h:VwOk v)(hf:Qf f=0)(hl:(QI v f).length<=1000):Yj v f=(QI v f,0):=by
 unfold Yj;rw[if_neg (by simpa using(XN v).2 h),if_neg (by simpa using hf),if_neg (by omega)]
theorem Zch{l:List Fct}{k:Nat}{f:Fct}(h:l[k]?=some f):l.take (k+1)=l.take k++[f]:=by
 obtain⟨hk,rfl⟩:=List.getElem?_eq_some_iff.1 h
 rw[List.take_succ_eq_append_getElem hk]
end
section
open Go
theorem Jy{v:List Fct}(h:VwOk v)(d:Int)(h1: -25567<=d)(h2:d<=84005):JS v d=(v.filter (fun f=>decide (f.day<=d)),0):=by
 unfold JS;rw[if_neg (by simpa using(XN v).2 h),if_neg (by omega)]
def Va:List Fct->List Fct
 |[]=>[]
 |f::fs=>if(fs.any fun g=>g.key==f.key)=true then Va fs else f::Va fs
theorem Jz:∀l,(Va l).Sublist l
 |[]=>List.Sublist.slnil
 |f::fs=>by
  unfold Va
  split
  ·exact(Jz fs).cons _
  ·exact(Jz fs).cons_cons _
theorem Vb(f:Fct)(l:List Fct)(k:List UInt8):Qd (f::l) k=match Qd l k with
 |some g=>some g
 |none=>if f.key=k then some f else none:=by
 unfold Qd;rw[List.reverse_cons,List.find?_append]
 cases l.reverse.find? (fun f=>f.key==k) with
 |some g=>rfl
 |none=>
  rw[Option.none_or]
  by_cases e:f.key=k
  ·rw[List.find?_cons_of_pos (by simpa using e),if_pos e]
  ·rw[List.find?_cons_of_neg (by simpa using e),if_neg e];rfl
theorem Zbr(k:List UInt8):∀l,Qd (Va l) k=Qd l k
 |[]=>rfl
 |f::fs=>by
  have ih:=Zbr k fs;unfold Va
  by_cases h:(fs.any fun g=>g.key==f.key)=true
  ·rw[if_pos h,ih,Vb]
   cases e:Qd fs k with
   |some g=>rfl
   |none=>
    obtain⟨g,hg,e2⟩:=List.any_eq_true.1 h
    have h1:=XM.1 e g hg;have h2:g.key=f.key:=by simpa using e2
    rw[if_neg (fun e3=>h1 (h2.trans e3))]
  ·rw[if_neg h,Vb,Vb,ih]
theorem ZfW{l:List Fct}(h:LogOk l):Vq (Va l)=0/\JC (Va l)=JC l:=
 ⟨(YL _).2 (h.sub (Jz l)),Ze4 fun k=>by rw[Zbr]⟩
theorem ZfX{l:List Fct}(h:LogOk l)(hl:l.length+1<=1000){k:Nat}{x f:Fct}(hx:l[k]?=some x)(hs:f.stamp=x.stamp)(hf:Qf f=0)(ha:((l.drop k).any fun g=>g.key==f.key)=true):
 Vq (l.take k++f::l.drop k)=0/\JC (l.take k++f::l.drop k)=JC l:=by
 have hkl:=(List.getElem?_eq_some_iff.1 hx).1;refine⟨(YL _).2 ⟨?_,fun g hg=> ?_,?_⟩,Ze4 fun key=> ?_⟩
 ·simp;omega
 ·rcases List.mem_append.1 hg with hg|hg
  ·exact h.chk g (List.mem_of_mem_take hg)
  ·rcases List.mem_cons.1 hg with rfl|hg
   ·exact hf
   ·exact h.chk g (List.mem_of_mem_drop hg)
 ·have h1:=h.ord;rw[<-List.take_append_drop k l,List.pairwise_append] at h1
  have hdc:l.drop k=x::l.drop (k+1):=by
   have:=(List.getElem?_eq_some_iff.1 hx).2
   rw[List.drop_eq_getElem_cons hkl,this]
  refine List.pairwise_append.2 ⟨h1.1,List.pairwise_cons.2 ⟨fun g hg=> ?_,h1.2.1⟩,fun y hy g hg=> ?_⟩
  ·rw[hs];rw[hdc] at hg h1
   rcases List.mem_cons.1 hg with rfl|hg
   ·exact Int.le_refl _
   ·exact(List.pairwise_cons.1 h1.2.1).1 g hg
  ·rcases List.mem_cons.1 hg with rfl|hg
   ·rw[hs];exact h1.2.2 y hy x (by rw[hdc];exact List.mem_cons_self ..)
   ·exact h1.2.2 y hy g hg
 ·have e:Qd (l.take k++f::l.drop k) key=Qd l key:=by
   have h2:∀a b,Qd (a++b) key=(Qd b key).or (Qd a key):=by
    intro a b;unfold Qd;rw[List.reverse_append,List.find?_append]
   conv=>rhs;rw[<-List.take_append_drop k l]
   rw[h2,h2]
   congr 1
   rw[Vb]
   cases e:Qd (l.drop k) key with
   |some g=>rfl
   |none=>
    obtain⟨g,hg,e2⟩:=List.any_eq_true.1 ha
    have h3:=XM.1 e g hg;have h4:g.key=f.key:=by simpa using e2
    rw[if_neg (fun e3=>h3 (h4.trans e3))]
  rw[e]
theorem Zeq{l:List Fct}{f:Fct}(hd:DK (l++[f]))(hc:f.cancelled=false):QI (QC (l.map QE)) f=QC ((l++[f]).map QE):=by
 have hd1:DK l:=(List.pairwise_append.1 hd).1;have hm:∀{m:List Fct},DK m->DK (m.map QE):=fun h=>List.Pairwise.map _ (fun a b h=>h) h
 refine VI (Zac (QY (hm hd1)) f) (QY (hm hd)) fun g=> ?_
 rw[Xv,QD,QD,List.map_append,List.mem_append]
 constructor
 ·rintro(⟨h,_⟩|⟨_,rfl⟩)
  ·exact .inl h
  ·exact .inr (List.mem_singleton.2 rfl)
 ·rintro(h|h)
  ·obtain⟨x,hx,rfl⟩:=List.mem_map.1 h
   exact .inl ⟨h,(List.pairwise_append.1 hd).2.2 x hx f (List.mem_cons_self ..)⟩
  ·exact .inr ⟨hc,List.mem_singleton.1 h⟩
theorem Zer{l m:List Fct}(h:l.Perm m)(hd:DK l):QC l=QC m:=by
 have hd2:DK m:=(h.pairwise_iff (fun h=>Ne.symm h)).1 hd;exact VI (QY hd) (QY hd2) fun g=>by rw[QD,QD,h.mem_iff]
theorem ZhJ{l:List Fct}(hd:DK l)(hl:l.length<=1000)(h:∀f∈l,Qf f=0/\f.cancelled=false):VwOk (QC (l.map QE)):=by
 have hm:DK (l.map QE):=List.Pairwise.map _ (fun a b h=>h) hd;refine⟨by rw[XK,List.length_map];exact hl,fun g hg=> ?_,VJ (QY hm) fun x hx y hy e=>Zbk hm ((QD x _).1 hx) ((QD y _).1 hy) e,QY hm⟩;obtain⟨f,hf,rfl⟩:=List.mem_map.1 ((QD g _).1 hg)
 exact⟨ZaP (h f hf).1 (h f hf).2,(h f hf).2,rfl⟩
theorem Zes{l p r:List Fct}{f:Fct}(hd:DK l)(hl:l.length<=1000)(h:∀f∈l,Qf f=0/\f.cancelled=false)(hp:(p++f::r).Perm l):Yj (QC (p.map QE)) f=(QC ((p++[f]).map QE),0):=by
 have hdq:DK (p++f::r):=(hp.pairwise_iff (fun h=>Ne.symm h)).2 hd;have hs:(p++[f]).Sublist (p++f::r):=List.Sublist.append (List.Sublist.refl _) (List.Sublist.cons_cons _ (List.nil_sublist _));have hdp:DK (p++[f]):=hdq.sublist hs;have hmem:∀g∈p++[f],Qf g=0/\g.cancelled=false:=fun g hg=>h g (hp.mem_iff.1 (hs.subset hg))
 have hlen:(p++[f]).length<=1000:=by have h1:=hp.length_eq;have h2:=hs.length_le;omega
 have hn:=Zeq hdp (hmem f (List.mem_append_right _ (List.mem_cons_self ..))).2;rw[Zcg (ZhJ (List.pairwise_append.1 hdp).1 (by rw[List.length_append] at hlen;omega) fun g hg=>hmem g (List.mem_append_left _ hg)) (hmem f (List.mem_append_right _ (List.mem_cons_self ..))).1 (by rw[hn,XK,List.length_map];exact hlen),hn]
theorem Zjc{v:List Fct}(hd:DK v){f:Fct}(hf:f∈v):∃i,YI v f.key=some i/\v[i]?=some f:=by
 unfold YI
 cases e:v.findIdx? (fun x=>x.key==f.key) with
 |none=>
  rw[List.findIdx?_eq_none_iff] at e;have:=e f hf
  simp at this
 |some i=>
  rw[List.findIdx?_eq_some_iff_getElem] at e;obtain⟨h,h1,_⟩:=e
  refine⟨i,rfl,?_⟩;rw[List.getElem?_eq_getElem h,Zbk hd (List.getElem_mem h) hf (by simpa using h1)]
theorem ZfY{v:List Fct}{k:List UInt8}(h:YI v k=none):Qd v k=none:=by
 unfold YI at h;rw[List.findIdx?_eq_none_iff] at h;exact XM.2 fun f hf e=>by have:=h f hf;rw[e] at this;simp at this
theorem ZfZ{v:List Fct}{k:List UInt8}{i:Nat}(h:YI v k=some i):∃f,v[i]?=some f/\f.key=k/\f∈v:=by
 unfold YI at h;rw[List.findIdx?_eq_some_iff_getElem] at h;obtain⟨h,h1,_⟩:=h
 exact⟨v[i],List.getElem?_eq_getElem h,by simpa using h1,List.getElem_mem h⟩
theorem Zbs(s t:List UInt8):∀l,t∈ZbF s l↔t=s\/t∈l
 |[]=>by simp[ZbF]
 |x::l=>by
  unfold ZbF
  by_cases h1:Op.bytesLess s x=true
  ·rw[if_pos h1];simp
  ·rw[if_neg h1]
   by_cases h2:Op.bytesLess x s=true
   ·rw[if_pos h2,List.mem_cons,Zbs s t l,List.mem_cons]
    constructor
    ·rintro(h|h|h)
     ·exact .inr (.inl h)
     ·exact .inl h
     ·exact .inr (.inr h)
    ·rintro(h|h|h)
     ·exact .inr (.inl h)
     ·exact .inl h
     ·exact .inr (.inr h)
   ·rw[if_neg h2]
    have hsx:s=x:=by
     rcases VH s x with h|h|h
     ·exact absurd ((blt s x).2 h) h1
     ·exact h
     ·exact absurd ((blt x s).2 h) h2
    subst hsx
    constructor
    ·intro h;exact .inr h
    ·rintro(rfl|h)
     ·exact List.mem_cons_self ..
     ·exact h
theorem JA(t:List UInt8):∀l,t∈YT l↔t∈l
 |[]=>by simp[YT]
 |s::l=>by unfold YT;rw[Zbs,JA t l,List.mem_cons]
theorem ZdB(s:List UInt8):∀{l:List (List UInt8)},l.Pairwise (·< ·)->(ZbF s l).Pairwise (·< ·)
 |[],_=>by simp[ZbF]
 |x::l,h=>by
  rw[List.pairwise_cons] at h;unfold ZbF
  by_cases h1:Op.bytesLess s x=true
  ·rw[if_pos h1];have h1:=(blt s x).1 h1;refine List.pairwise_cons.2 ⟨fun g hg=> ?_,List.pairwise_cons.2 h⟩
   rcases List.mem_cons.1 hg with rfl|hg
   ·exact h1
   ·exact List.lt_trans h1 (h.1 g hg)
  ·rw[if_neg h1]
   by_cases h2:Op.bytesLess x s=true
   ·rw[if_pos h2];refine List.pairwise_cons.2 ⟨fun g hg=> ?_,ZdB s h.2⟩
    rcases(Zbs s g l).1 hg with rfl|hg
    ·exact(blt _ _).1 h2
    ·exact h.1 g hg
   ·rw[if_neg h2];exact List.pairwise_cons.2 h
theorem Zbt:∀(l:List (List UInt8)),(YT l).Pairwise (·< ·)
 |[]=>List.Pairwise.nil
 |s::l=>ZdB s (Zbt l)
theorem ZhK{a b:List (List UInt8)}(h:b.Pairwise (·< ·))(hm:∀k,k∈b↔k∈a):b=YT a:=
 Zeg (fun x=>List.lt_irrefl x) (fun _ _ _=>List.lt_trans) h (Zbt a) fun k=>by rw[hm,JA]
section
variable {a b:List Fct}
theorem JB(ha:DK a)(hb:DK b)(k:List UInt8):k∈YT ((Qs a b++Qs b a).map (·.key))↔Qd a k≠Qd b k:=by
 have one:∀{c d:List Fct},DK c->((∃f∈Qs c d,f.key=k)↔∃f,Qd c k=some f/\Qd d k≠some f):=by
  intro c d hc;unfold Qs
  constructor
  ·rintro⟨f,hf,rfl⟩;rw[List.mem_filter] at hf;exact⟨f,YK hc hf.1,by simpa using hf.2⟩
  ·rintro⟨f,h1,h2⟩;have hk:=XL h1;exact⟨f,List.mem_filter.2 ⟨QR h1,by rw[hk];simpa using h2⟩,hk⟩
 rw[JA,List.map_append,List.mem_append,List.mem_map,List.mem_map,one ha,one hb]
 constructor
 ·rintro(⟨f,h1,h2⟩|⟨f,h1,h2⟩)
  ·rw[h1];exact fun e=>h2 e.symm
  ·rw[h1];exact h2
 ·intro h
  cases e:Qd a k with
  |some f=>exact .inl ⟨f,rfl,fun e2=>h (e.trans e2.symm)⟩
  |none=>
   cases e2:Qd b k with
   |some f=>exact .inr ⟨f,rfl,by simp⟩
   |none=>exact absurd (e.trans e2.symm) h
theorem Zcj(ha:DK a)(f:Fct):f∈a↔Qd a f.key=some f:=⟨YK ha,QR⟩
theorem ZhL(ha:VwOk a)(hb:VwOk b)(h:∀k,Qd a k=Qd b k):a=b:=
 VI ha.srt hb.srt fun f=>by rw[Zcj ha.dk,Zcj hb.dk,h]
theorem ZhM(ha:VwOk a)(hb:VwOk b):YT ((Qs a b++Qs b a).map (·.key))=[]↔a=b:=by
 constructor
 ·intro h;refine ZhL ha hb fun k=> ?_
  have:=mt (JB ha.dk hb.dk k).2 (by rw[h];simp)
  exact Decidable.not_not.1 this
 ·rintro rfl;rw[List.eq_nil_iff_forall_not_mem];intro k hk;exact(JB ha.dk hb.dk k).1 hk rfl
theorem Zf0{v:List Fct}(hv:VwOk v){f:Fct}(k:List UInt8):Qd (QI v f) k=if f.key=k then(if f.cancelled=true then none else some (QE f)) else Qd v k:=by
 have hd:=Zdw hv.srt hv.dk f
 by_cases e:f.key=k
 ·rw[if_pos e]
  by_cases hc:f.cancelled=true
  ·rw[if_pos hc,XM];intro g hg
   rcases(Xv v f g).1 hg with ⟨_,h⟩|⟨h,_⟩
   ·rw[<-e];exact h
   ·rw[hc] at h;cases h
  ·rw[if_neg hc];have:QE f∈QI v f:=(Xv v f _).2 (.inr ⟨by simpa using hc,rfl⟩)
   have h2:=YK hd this;rw[ZiX,e] at h2;exact h2
 ·rw[if_neg e]
  cases h:Qd v k with
  |none=>
   rw[XM] at h ⊢;intro g hg
   rcases(Xv v f g).1 hg with ⟨h1,_⟩|⟨_,rfl⟩
   ·exact h g h1
   ·exact e
  |some g=>
   have hk:=XL h;have:g∈QI v f:=(Xv v f _).2 (.inl ⟨QR h,by rw[hk];exact fun h2=>e h2.symm⟩)
   have h2:=YK hd this;rw[hk] at h2;exact h2
def toB(b:List Fct)(k:List UInt8):Fct:=match Qd b k with
 |some f=>f
 |none=>YZ k
theorem Zjd(b:List Fct)(k:List UInt8):(toB b k).key=k:=by
 unfold toB
 cases h:Qd b k with
 |none=>rfl
 |some f=>exact XL h
theorem Zje(ha:VwOk a)(hb:VwOk b){k:List UInt8}(h:Qd a k≠Qd b k):Qf (toB b k)=0:=by
 unfold toB
 cases e:Qd b k with
 |some f=>exact(hb.chk f (QR e)).1
 |none=>
  cases e2:Qd a k with
  |none=>exact absurd (e2.trans e.symm) h
  |some f=>
   refine Zi7 ?_;rw[<-XL e2];exact Zi6 (ha.chk f (QR e2)).1
theorem Zj5{f:Fct}(h:f.stamp=0):QE f=f:=by unfold QE;rw[<-h]
theorem ZhN(hb:VwOk b){v:List Fct}(hv:VwOk v)(k k':List UInt8):Qd (QI v (toB b k)) k'=if k=k' then Qd b k' else Qd v k':=by
 rw[Zf0 hv,Zjd]
 by_cases e:k=k'
 ·subst e;rw[if_pos rfl,if_pos rfl];unfold toB
  cases h:Qd b k with
  |none=>rfl
  |some f=>
   have:=hb.chk f (QR h)
   dsimp only
   rw[if_neg (by rw[this.2.1];decide),Zj5 this.2.2]
 ·rw[if_neg e,if_neg e]
theorem Zjf(ha:VwOk a)(hb:VwOk b){v:List Fct}(hv:VwOk v){pre:List (List UInt8)}{k:List UInt8}(hk:Qd a k≠Qd b k)(h:∀x,Qd v x=if x∈pre then Qd b x else Qd a x)(hl:v.length+1<=1000):
 Yj v (toB b k)=(QI v (toB b k),0)/\VwOk (QI v (toB b k))/\(∀x,Qd (QI v (toB b k)) x=if x∈pre++[k] then Qd b x else Qd a x)/\(QI v (toB b k)).length<=v.length+1:=by
 have h1:=ZfQ v (toB b k);have hc:=Zje ha hb hk;refine⟨Zcg hv hc (by omega),ZhG hv hc (by omega),fun x=> ?_,h1⟩;rw[ZhN hb hv,h]
 by_cases e:k=x
 ·subst e;rw[if_pos rfl,if_pos (List.mem_append_right _ (List.mem_cons_self ..))]
 ·rw[if_neg e]
  by_cases h2:x∈pre
  ·rw[if_pos h2,if_pos (List.mem_append_left _ h2)]
  ·rw[if_neg h2,if_neg];intro h3
   rcases List.mem_append.1 h3 with h3|h3
   ·exact h2 h3
   ·exact e (List.mem_singleton.1 h3).symm
theorem Zj6(ha:VwOk a)(hb:VwOk b){v:List Fct}(hv:VwOk v)(h:∀x,Qd v x=if x∈YT ((Qs a b++Qs b a).map (·.key)) then Qd b x else Qd a x):v=b:=by
 refine ZhL hv hb fun k=> ?_
 rw[h]
 split
 ·rfl
 ·rename_i hk
  exact Decidable.not_not.1 (mt (JB ha.dk hb.dk k).2 hk)
end
theorem Zbu:∀(l:List Fct) (p:Int×Bool),(∀f∈l,(l.foldl QV p).1<=f.day)/\(p.2=true->(l.foldl QV p).1<=p.1)/\((l.foldl QV p).2=(p.2|| !l.isEmpty))/\((l.foldl QV p=p)\/∃f∈l,(l.foldl QV p).1=f.day)
 |[],p=>⟨fun f h=>(by cases h),fun _=>Int.le_refl _,by simp,.inl rfl⟩
 |x::l,p=>by
  obtain⟨h1,h2,h3,h4⟩:=Zbu l (QV p x)
  rw[List.foldl_cons];have hx:(QV p x).2=true:=by unfold QV;split<;>rename_i h<;>simp_all
  have hm:(QV p x).1<=x.day:=by
   unfold QV
   split
   ·exact Int.le_refl _
   ·rename_i h;have:=mt Or.inr h;show p.1<=x.day;omega
  have hp:p.2=true->(QV p x).1<=p.1:=by
   intro e;unfold QV
   split
   ·rename_i h;rcases h with h|h
    ·rw[e] at h;cases h
    ·exact Int.le_of_lt h
   ·exact Int.le_refl _
  refine⟨fun f hf=> ?_,fun e=>Int.le_trans (h2 hx) (hp e),by rw[h3,hx];simp,?_⟩
  ·rcases List.mem_cons.1 hf with rfl|hf
   ·exact Int.le_trans (h2 hx) hm
   ·exact h1 f hf
  ·rcases h4 with h4|⟨f,hf,h4⟩
   ·rw[h4];unfold QV
    split
    ·exact .inr ⟨x,List.mem_cons_self ..,rfl⟩
    ·exact .inl rfl
   ·exact .inr ⟨f,List.mem_cons_of_mem _ hf,h4⟩
theorem Zf1{a b:List Fct}(ha:VwOk a)(hb:VwOk b){d:Int}(h:(Qs a b++Qs b a).foldl QV (0,false)=(d,true)):
 (-25567<=d/\d<=84005)/\a.filter (fun f=>decide (f.day<=d-1))=b.filter (fun f=>decide (f.day<=d-1))/\a.filter (fun f=>decide (f.day<=d))≠b.filter (fun f=>decide (f.day<=d)):=by
 obtain⟨h1,_,h3,h4⟩:=Zbu (Qs a b++Qs b a) (0,false)
 rw[h] at h1 h3 h4;have hmem:∀{c e:List Fct} {f:Fct},f∈Qs c e↔f∈c/\Qd e f.key≠some f:=by intro c e f;unfold Qs;simp
 have hnot:∀{c e:List Fct} {f:Fct},DK e->f∈Qs c e->f ∉ e:=fun hd hf he=>(hmem.1 hf).2 (YK hd he)
 have hin:∀{c e:List Fct} {f:Fct},f∈c->f ∉ Qs c e->f∈e:=fun hc hn=>by
  have:=mt hmem.2 hn
  exact QR (Decidable.not_not.1 fun h2=>this ⟨hc,h2⟩)
 obtain⟨f,hf,hd⟩:∃f∈Qs a b++Qs b a,d=f.day:=by
  rcases h4 with h4|h4
  ·cases h4
  ·exact h4
 refine⟨?_,?_,fun e=> ?_⟩
 ·rw[hd]
  rcases List.mem_append.1 hf with hf|hf
  ·have:=ha.chk f (hmem.1 hf).1;exact Ze9 this.1 this.2.1
  ·have:=hb.chk f (hmem.1 hf).1;exact Ze9 this.1 this.2.1
 ·refine VI (ha.srt.sublist List.filter_sublist) (hb.srt.sublist List.filter_sublist) fun g=> ?_
  rw[List.mem_filter,List.mem_filter,decide_eq_true_eq]
  constructor
  ·rintro⟨h5,h6⟩;refine⟨hin h5 fun hm=> ?_,h6⟩;have:=h1 g (List.mem_append_left _ hm)
   dsimp only at this;omega
  ·rintro⟨h5,h6⟩;refine⟨hin h5 fun hm=> ?_,h6⟩;have:=h1 g (List.mem_append_right _ hm)
   dsimp only at this;omega
 ·have hg:f∈a.filter (fun f=>decide (f.day<=d))↔f∈b.filter (fun f=>decide (f.day<=d)):=by rw[e]
  rw[List.mem_filter,List.mem_filter,decide_eq_true_eq] at hg
  rcases List.mem_append.1 hf with hf|hf
  ·exact hnot hb.dk hf (hg.1 ⟨(hmem.1 hf).1,by omega⟩).1
  ·exact hnot ha.dk hf (hg.2 ⟨(hmem.1 hf).1,by omega⟩).1
end
section
open Go
theorem ZhO{a b:List UInt8}:a<=b↔a<b\/a=b:=by
 constructor
 ·intro h
  rcases VH a b with h1|h1|h1
  ·exact .inl h1
  ·exact .inr h1
  ·exact absurd h1 h
 ·rintro(h|rfl)
  ·exact fun h2=>List.lt_irrefl a (List.lt_trans h h2)
  ·exact List.lt_irrefl a
theorem Zet{a b c:List UInt8}(h:a<=b)(k:b<=c):a<=c:=by
 rw[ZhO] at*
 rcases h with h|rfl
 ·rcases k with k|rfl
  ·exact .inl (List.lt_trans h k)
  ·exact .inl h
 ·exact k
def XA(xs:List (List UInt8)):List (List UInt8):=xs.mergeSort fun x y=>decide (x<=y)
theorem VN(xs:List (List UInt8)):(XA xs).length=xs.length:=List.length_mergeSort xs
theorem ZcM(zs:List (List UInt8)):(Lib.compact zs).length<=zs.length:=by
 unfold Lib.compact Lib.compactUpTo;rw[List.length_map];exact Nat.le_trans (List.length_filter_le _ _) (by simp)
theorem ZbK(d:Array (List UInt8))(hs:∀i j,i<=j->j<d.size->d[i]! <=d[j]!)(m:Nat)(hm:m<=d.size):
 (Lib.compactUpTo d m).Pairwise (·< ·)/\(∀x,x∈Lib.compactUpTo d m↔∃j,j<m/\d[j]! =x):=by
 induction m with
 |zero=>exact⟨by unfold Lib.compactUpTo;simp,fun x=>by unfold Lib.compactUpTo;simp⟩
 |succ m ih=>
  obtain⟨h1,h2⟩:=ih (by omega)
  rw[Lib.compactUpTo_succ]
  by_cases hk:Lib.keeps d m=true
  ·rw[if_pos hk];refine⟨?_,fun x=> ?_⟩
   ·rw[List.pairwise_append];refine⟨h1,by simp,fun x hx y hy=> ?_⟩;simp at hy;subst hy;obtain⟨j,hj,rfl⟩:=(h2 x).1 hx
    unfold Lib.keeps at hk;simp only[decide_eq_true_eq] at hk;have h3:=hs j (m-1) (by omega) (by omega);have h4:=hs (m-1) m (by omega) (by omega)
    rcases hk with hk|hk
    ·omega
    ·rcases ZhO.1 h4 with h4|h4
     ·rcases ZhO.1 h3 with h3|h3
      ·exact List.lt_trans h3 h4
      ·rw[h3];exact h4
     ·exact absurd h4.symm hk
   ·rw[List.mem_append,h2];simp only[List.mem_singleton]
    constructor
    ·rintro(⟨j,hj,rfl⟩|rfl)
     ·exact⟨j,by omega,rfl⟩
     ·exact⟨m,by omega,rfl⟩
    ·rintro⟨j,hj,rfl⟩
     by_cases e:j=m
     ·subst e;exact .inr rfl
     ·exact .inl ⟨j,by omega,rfl⟩
  ·rw[if_neg hk,List.append_nil];refine⟨h1,fun x=> ?_⟩;rw[h2];unfold Lib.keeps at hk;simp only[decide_eq_true_eq,not_or,ne_eq,Decidable.not_not] at hk
   constructor
   ·rintro⟨j,hj,rfl⟩;exact⟨j,by omega,rfl⟩
   ·rintro⟨j,hj,rfl⟩
    by_cases e:j=m
    ·subst e;exact⟨j-1,by omega,hk.2.symm⟩
    ·exact⟨j,by omega,rfl⟩
theorem Zjg(xs:List (List UInt8)):Lib.compact (XA xs)=YT xs:=by
 have hsorted:(XA xs).Pairwise (fun a b=>a<=b):=by
  have:=List.pairwise_mergeSort (le:=fun x y:List UInt8=>decide (x<=y)) (fun a b c h k=>by rw[decide_eq_true_eq] at *; exact Zet h k) (fun a b=>by
   rw[Bool.or_eq_true,decide_eq_true_eq,decide_eq_true_eq,ZhO,ZhO]
   rcases VH a b with h|h|h
   ·exact .inl (.inl h)
   ·exact .inl (.inr h)
   ·exact .inr (.inl h)) xs
  exact this.imp (by simp)
 have hget:∀i,(h:i<(XA xs).length)->(XA xs).toArray[i]! =(XA xs)[i]:=fun i hi=>by simp[hi]
 have hs:∀i j,i<=j->j<(XA xs).toArray.size->(XA xs).toArray[i]! <=(XA xs).toArray[j]! :=by
  intro i j hij hj;have hj':j<(XA xs).length:=by simpa using hj
  rw[hget i (by omega),hget j hj']
  rcases Nat.lt_or_ge i j with h|h
  ·exact List.pairwise_iff_getElem.1 hsorted i j (by omega) hj' h
  ·have:i=j:=by omega
   subst this;exact List.lt_irrefl _
 obtain⟨h1,h2⟩:=ZbK (XA xs).toArray hs (XA xs).length (by simp)
 refine ZhK h1 fun x=> ?_
 show x∈Lib.compactUpTo _ _↔_
 rw[h2];have hp:x∈XA xs↔x∈xs:=(List.mergeSort_perm xs _).mem_iff;rw[<-hp,List.mem_iff_getElem]
 constructor
 ·rintro⟨j,hj,rfl⟩;exact⟨j,hj,(hget j hj).symm⟩
 ·rintro⟨j,hj,rfl⟩;exact⟨j,hj,hget j hj⟩
end
section
open Go
theorem ZdM(s:List UInt8):∀l,(ZbF s l).length<=l.length+1
 |[]=>Nat.le_refl _
 |t::ts=>by
  have ih:=ZdM s ts;unfold ZbF
  split
  ·simp
  ·split
   ·simp;omega
   ·simp
theorem ZdN:∀l,(YT l).length<=l.length
 |[]=>Nat.le_refl _
 |s::ss=>by
  have ih:=ZdN ss;have h:=ZdM s (YT ss);unfold YT;rw[List.length_cons];omega
theorem Zh4{l:List (List UInt8)}:YT l=[]↔l=[]:=by
 constructor
 ·intro h
  cases l with
  |nil=>rfl
  |cons s ss=>
   have:=(JA s (s::ss)).2 (List.mem_cons_self ..)
   rw[h] at this;cases this
 ·rintro rfl;rfl
def kys(a b:List Fct):List (List UInt8):=YT ((Qs a b++Qs b a).map (·.key))
section
variable {a b:List Fct}
theorem Zjm:(kys a b).length<=a.length+b.length:=by
 refine Nat.le_trans (ZdN _) ?_;rw[List.length_map,List.length_append];exact Nat.add_le_add (List.length_filter_le _ _) (List.length_filter_le _ _)
theorem Zjn(ha:VwOk a)(hb:VwOk b):Zd7 a b=(kys a b,0):=by
 unfold Zd7;rw[if_neg (by rw[(XN a).2 ha,(XN b).2 hb];simp)];rfl
theorem Zgc(ha:VwOk a)(hb:VwOk b):∃d,JT a b=(d,decide (0<(kys a b).length),0)/\(0<(kys a b).length->(Qs a b++Qs b a).foldl QV (0,false)=(d,true)):=by
 refine⟨((Qs a b++Qs b a).foldl QV (0,false)).1,?_⟩;obtain⟨_,_,h3,_⟩:=Zbu (Qs a b++Qs b a) (0,false)
 have h4:((Qs a b++Qs b a).foldl QV (0,false)).2=decide (0<(kys a b).length):=by
  rw[h3]
  by_cases e:Qs a b++Qs b a=[]
  ·unfold kys;rw[e];rfl
  ·have h5:(Qs a b++Qs b a).isEmpty=false:=by simpa using e
   rw[h5];have h6:kys a b≠[]:=fun h=>e (by have:=Zh4.1 h;simpa using this)
   have h7:0<(kys a b).length:=List.length_pos_iff.2 h6;simp[h7]
 constructor
 ·unfold JT;rw[if_neg (by rw[(XN a).2 ha,(XN b).2 hb];simp),h4]
 ·intro h;rw[decide_eq_true h] at h4;rw[<-h4]
theorem Zh5(ha:VwOk a)(hb:VwOk b):decide (a=b)=decide ((kys a b).length=0):=by
 rw[decide_eq_decide,List.length_eq_zero_iff];exact(ZhM ha hb).symm
theorem Zjo:(kys a b).Pairwise (·< ·):=Zbt _
theorem Zjp(ha:VwOk a)(hb:VwOk b){j:Nat}{k:List UInt8}(h:(kys a b)[j]?=some k):Qd a k≠Qd b k:=(JB ha.dk hb.dk k).1 (List.mem_of_getElem? h)
theorem Zh6(hb:VwOk b){k:List UInt8}{i:Nat}(h:YI b k=some i):∃f,b[i]?=some f/\toB b k=f:=by
 obtain⟨f,h1,h2,h3⟩:=ZfZ h
 refine⟨f,h1,?_⟩;have h4:=YK hb.dk h3;rw[h2] at h4;unfold toB;rw[h4]
theorem Zh7{k:List UInt8}(h:YI b k=none):toB b k=YZ k:=by
 have h4:=ZfY h;unfold toB;rw[h4]
theorem Zh8{j:Nat}{k:List UInt8}{ks:List (List UInt8)}(h:ks[j]?=some k):ks.take (j+1)=ks.take j++[k]:=by
 obtain⟨hj,rfl⟩:=List.getElem?_eq_some_iff.1 h
 rw[List.take_succ_eq_append_getElem hj]
end
end
end Go.Proofs.YtbcnkcldlealjaaGreatDoor
